-- Written by wip/mprint.py, this session's own program, over the translation. Lean checks it.
import Derived.Test.YtnpinngdiipogaaDoorM0
import Derived.Test.YtnpinngdiipogaaDoorM2
import Derived.Test.YtnpinngdiipogaaDoorM3
import Derived.Test.YtnpinngdiipogaaDoorM7
import Derived.Test.YtnpinngdiipogaaDoorM9
import Derived.Test.YtnpinngdiipogaaDoorM10
import Derived.Test.YtnpinngdiipogaaDoorM12
namespace Go.Proofs.YtnpinngdiipogaaDoor.M
open Go.RowKit Go.Proofs.YtnpinngdiipogaaDoorW.PrintWords Go.Proofs.YtnpinngdiipogaaDoorW.PrintLast Go.Proofs.YtnpinngdiipogaaDoorW.PrintMore
attribute [local go_sem] max2_int min2_int max_two min_two max_three min_three max_four min_four   -- for this text's walks alone
set_option linter.unusedVariables false
set_option linter.unusedSimpArgs false

attribute [local go_sem high] eqA25
/-! ### partitalaw02_PitchSigns: function 11 -/
def partitalaw02_PitchSigns.j0 : Nat → Bool → Int → Int → Int → Int → Int → Int → Int → Bool → Int → Int → Int → Int → Int → Int → Int → Int → Option (Bool)
  | 0, _, _, _, _, _, _, _, _, _, _, _, _, _, _, _, _, _ => none
  | k + 1, x3, x6, x8, x9, x10, x12, x13, x15, x67, x497000, x497001, x497002, x498000, x498001, x498002, x510000, x510001 => if x67 = true then (some false) else ((pitch_Right.f x498000 x498001 x498002).bind fun t511 => (if t511 = true then (if x3 = true then (if x9 = 0 then (if x8 = (wrap64 (x6 + 1)) then (if x13 = 0 then (if x12 = x10 then (if x15 = 0 then (if (x510000 == 0 && (x510001 == 1)) = true then ((pitch_Compare.f k x497000 x497001 x497002 x498000 x498001 x498002).bind fun t512 => (some (t512 == (-1)))) else (some false)) else (some false)) else (some false)) else (some false)) else (some false)) else (some false)) else (some false)) else (if x3 = true then (if x9 = 20 then (if x13 = 20 then (if x15 = 20 then ((pitch_Compare.f k x497000 x497001 x497002 x498000 x498001 x498002).bind fun t513 => (some (t513 == 0))) else (some false)) else (some false)) else (some false)) else (some false))))
def partitalaw02_PitchSigns.f (k : Nat) (a0_0 : Int) (a0_1 : Int) (a0_2 : Int) : Option (Bool) := (partitalaw02_awake.f k).bind fun t492 => ((partitalaw02_Pitch.f a0_0 a0_1 a0_2).bind fun bt493 => ((pitch_Number.f bt493.1 bt493.2.1 bt493.2.2).bind fun bt498 => ((pitch_Number.f bt493.1 (wrap64 (bt493.2.1 + 1)) bt493.2.2).bind fun bt500 => ((pitch_Line.f bt493.1 bt493.2.1 bt493.2.2).bind fun bt502 => ((pitch_Line.f bt493.1 (wrap64 (bt493.2.1 + 1)) bt493.2.2).bind fun bt504 => ((pitch_Between.f k bt493.1 bt493.2.1 bt493.2.2 bt493.1 (wrap64 (bt493.2.1 + 1)) bt493.2.2).bind fun bt506 => (if bt498.2 = 0 then (if bt502.2 = 0 then ((pitch_Right.f bt493.1 (wrap64 (bt493.2.1 + 1)) bt493.2.2).bind fun t510 => (if bt493.2.1 < 2 then (partitalaw02_PitchSigns.j0 k t492 bt498.1 bt500.1 bt500.2 bt502.1 bt504.1 bt504.2 bt506.2.2 (t510 != (decide (bt498.1 < 127))) bt493.1 bt493.2.1 bt493.2.2 bt493.1 (wrap64 (bt493.2.1 + 1)) bt493.2.2 bt506.1 bt506.2.1) else (partitalaw02_PitchSigns.j0 k t492 bt498.1 bt500.1 bt500.2 bt502.1 bt504.1 bt504.2 bt506.2.2 (t510 != false) bt493.1 bt493.2.1 bt493.2.2 bt493.1 (wrap64 (bt493.2.1 + 1)) bt493.2.2 bt506.1 bt506.2.1))) else (partitalaw02_PitchSigns.j0 k t492 bt498.1 bt500.1 bt500.2 bt502.1 bt504.1 bt504.2 bt506.2.2 true bt493.1 bt493.2.1 bt493.2.2 bt493.1 (wrap64 (bt493.2.1 + 1)) bt493.2.2 bt506.1 bt506.2.1)) else (partitalaw02_PitchSigns.j0 k t492 bt498.1 bt500.1 bt500.2 bt502.1 bt504.1 bt504.2 bt506.2.2 true bt493.1 bt493.2.1 bt493.2.2 bt493.1 (wrap64 (bt493.2.1 + 1)) bt493.2.2 bt506.1 bt506.2.1))))))))
theorem partitalaw02_PitchSigns.mono_l : ∀ k, (∀ y0 y1 y2 y3 y4 y5 y6 y7 y8 y9 y10 y11 y12 y13 y14 y15 y16, LeO (partitalaw02_PitchSigns.j0 k y0 y1 y2 y3 y4 y5 y6 y7 y8 y9 y10 y11 y12 y13 y14 y15 y16) (partitalaw02_PitchSigns.j0 (k + 1) y0 y1 y2 y3 y4 y5 y6 y7 y8 y9 y10 y11 y12 y13 y14 y15 y16))
  | 0 => fun _ _ _ _ _ _ _ _ _ _ _ _ _ _ _ _ _ r h => by simp [partitalaw02_PitchSigns.j0] at h
  | k + 1 => by
    have ih0 := partitalaw02_PitchSigns.mono_l k
    · intro y0 y1 y2 y3 y4 y5 y6 y7 y8 y9 y10 y11 y12 y13 y14 y15 y16
      unfold partitalaw02_PitchSigns.j0
      repeat' first
      | (with_reducible exact ih0 _ _ _ _ _ _ _ _ _ _ _ _ _ _ _ _ _)
      | (with_reducible exact partitalaw02_awake.mono _)
      | (with_reducible exact pitch_Between.mono _ _ _ _ _ _ _)
      | (with_reducible exact pitch_Compare.mono _ _ _ _ _ _ _)
      | (with_reducible exact LeO.refl _)
      | (with_reducible exact LeO.none _)
      | (with_reducible refine LeO.ite ?_ ?_)
      | (with_reducible refine LeO.bind ?_ (fun _ => ?_))
      | exact ih0 _ _ _ _ _ _ _ _ _ _ _ _ _ _ _ _ _
      | exact partitalaw02_awake.mono _
      | exact pitch_Between.mono _ _ _ _ _ _ _
      | exact pitch_Compare.mono _ _ _ _ _ _ _
      | exact LeO.none _
      | refine LeO.ite ?_ ?_
      | refine LeO.bind ?_ (fun _ => ?_)
theorem partitalaw02_PitchSigns.mono : ∀ a0 a1 a2 k, LeO (partitalaw02_PitchSigns.f k a0 a1 a2) (partitalaw02_PitchSigns.f (k + 1) a0 a1 a2) := by
  intro a0 a1 a2 k
  have ih0 := partitalaw02_PitchSigns.mono_l k
  unfold partitalaw02_PitchSigns.f
  repeat' first
      | (with_reducible exact ih0 _ _ _ _ _ _ _ _ _ _ _ _ _ _ _ _ _)
      | (with_reducible exact partitalaw02_awake.mono _)
      | (with_reducible exact pitch_Between.mono _ _ _ _ _ _ _)
      | (with_reducible exact pitch_Compare.mono _ _ _ _ _ _ _)
      | (with_reducible exact LeO.refl _)
      | (with_reducible exact LeO.none _)
      | (with_reducible refine LeO.ite ?_ ?_)
      | (with_reducible refine LeO.bind ?_ (fun _ => ?_))
      | exact ih0 _ _ _ _ _ _ _ _ _ _ _ _ _ _ _ _ _
      | exact partitalaw02_awake.mono _
      | exact pitch_Between.mono _ _ _ _ _ _ _
      | exact pitch_Compare.mono _ _ _ _ _ _ _
      | exact LeO.none _
      | refine LeO.ite ?_ ?_
      | refine LeO.bind ?_ (fun _ => ?_)
def partitalaw02_PitchSigns.T10 : Bool × List (List Nat × List Nat) := (true, [([], []), ([0], [0]), ([1], [1]), ([2], [2]), ([3, 2], [2, 3]), ([2, 4], [2, 4]), ([5, 2], [5]), ([6], [6]), ([7, 6, 6], [6, 7]), ([6], [6]), ([9, 6], [6, 9]), ([10, 6], [6, 10]), ([11, 8, 6], [6, 11]), ([12], [12]), ([13, 12], [12, 13]), ([12, 14, 6], [6, 12, 14]), ([8, 15, 6], [6, 8, 15]), ([6, 16], [6, 16])])
def partitalaw02_PitchSigns.B10 : List Nat := [0, 1, 3, 7, 15, 31, 63, 127, 255, 127, 639, 1663, 4095, 8191, 16383, 32767, 65535, 131071]
theorem partitalaw02_PitchSigns.tab10 : rtab .any (opsOf Tryd.f11 10) = partitalaw02_PitchSigns.T10 := by kernel_rfl
theorem partitalaw02_PitchSigns.bits10 : waitsOk partitalaw02_PitchSigns.T10.2 partitalaw02_PitchSigns.B10 = true := by kernel_rfl
set_option maxHeartbeats 8000000 in
set_option maxRecDepth 100000 in
theorem partitalaw02_PitchSigns.calls (k : Nat) (a0_0 : Int) (a0_1 : Int) (a0_2 : Int) (r : Bool) (w : World) (hr_ : r = true) (hG_ : GW w) (h : partitalaw02_PitchSigns.f k a0_0 a0_1 a0_2 = some r) :
    Calls Tryd.prog 11 #[.agg #[.int .i64 a0_0, .int .i64 a0_1, .int .i64 a0_2]] w fun e w' => e = .returned (.bool r) ∧ Below w.heap.size w w' := by
  have hu23 := Tryd.underlying23
  have hu25 := Tryd.underlying25
  have HB := Aside0.mk (Below.refl w.heap.size w)
  have HR_ := Aside0.mk hr_
  clear hr_
  have HG_ := Aside0.mk hG_
  clear hG_
  have H : ((partitalaw02_awake.f k).bind fun t492 => ((partitalaw02_Pitch.f a0_0 a0_1 a0_2).bind fun bt493 => ((pitch_Number.f bt493.1 bt493.2.1 bt493.2.2).bind fun bt498 => ((pitch_Number.f bt493.1 (wrap64 (bt493.2.1 + 1)) bt493.2.2).bind fun bt500 => ((pitch_Line.f bt493.1 bt493.2.1 bt493.2.2).bind fun bt502 => ((pitch_Line.f bt493.1 (wrap64 (bt493.2.1 + 1)) bt493.2.2).bind fun bt504 => ((pitch_Between.f k bt493.1 bt493.2.1 bt493.2.2 bt493.1 (wrap64 (bt493.2.1 + 1)) bt493.2.2).bind fun bt506 => (if bt498.2 = 0 then (if bt502.2 = 0 then ((pitch_Right.f bt493.1 (wrap64 (bt493.2.1 + 1)) bt493.2.2).bind fun t510 => (if bt493.2.1 < 2 then (partitalaw02_PitchSigns.j0 k t492 bt498.1 bt500.1 bt500.2 bt502.1 bt504.1 bt504.2 bt506.2.2 (t510 != (decide (bt498.1 < 127))) bt493.1 bt493.2.1 bt493.2.2 bt493.1 (wrap64 (bt493.2.1 + 1)) bt493.2.2 bt506.1 bt506.2.1) else (partitalaw02_PitchSigns.j0 k t492 bt498.1 bt500.1 bt500.2 bt502.1 bt504.1 bt504.2 bt506.2.2 (t510 != false) bt493.1 bt493.2.1 bt493.2.2 bt493.1 (wrap64 (bt493.2.1 + 1)) bt493.2.2 bt506.1 bt506.2.1))) else (partitalaw02_PitchSigns.j0 k t492 bt498.1 bt500.1 bt500.2 bt502.1 bt504.1 bt504.2 bt506.2.2 true bt493.1 bt493.2.1 bt493.2.2 bt493.1 (wrap64 (bt493.2.1 + 1)) bt493.2.2 bt506.1 bt506.2.1)) else (partitalaw02_PitchSigns.j0 k t492 bt498.1 bt500.1 bt500.2 bt502.1 bt504.1 bt504.2 bt506.2.2 true bt493.1 bt493.2.1 bt493.2.2 bt493.1 (wrap64 (bt493.2.1 + 1)) bt493.2.2 bt506.1 bt506.2.1))))))))) = some r := h
  clear h
  replace H := Option.bind_eq_some_iff.mp H
  obtain ⟨t492, A20, H⟩ := H
  replace H : ((partitalaw02_Pitch.f a0_0 a0_1 a0_2).bind fun bt493 => ((pitch_Number.f bt493.1 bt493.2.1 bt493.2.2).bind fun bt498 => ((pitch_Number.f bt493.1 (wrap64 (bt493.2.1 + 1)) bt493.2.2).bind fun bt500 => ((pitch_Line.f bt493.1 bt493.2.1 bt493.2.2).bind fun bt502 => ((pitch_Line.f bt493.1 (wrap64 (bt493.2.1 + 1)) bt493.2.2).bind fun bt504 => ((pitch_Between.f k bt493.1 bt493.2.1 bt493.2.2 bt493.1 (wrap64 (bt493.2.1 + 1)) bt493.2.2).bind fun bt506 => (if bt498.2 = 0 then (if bt502.2 = 0 then ((pitch_Right.f bt493.1 (wrap64 (bt493.2.1 + 1)) bt493.2.2).bind fun t510 => (if bt493.2.1 < 2 then (partitalaw02_PitchSigns.j0 k t492 bt498.1 bt500.1 bt500.2 bt502.1 bt504.1 bt504.2 bt506.2.2 (t510 != (decide (bt498.1 < 127))) bt493.1 bt493.2.1 bt493.2.2 bt493.1 (wrap64 (bt493.2.1 + 1)) bt493.2.2 bt506.1 bt506.2.1) else (partitalaw02_PitchSigns.j0 k t492 bt498.1 bt500.1 bt500.2 bt502.1 bt504.1 bt504.2 bt506.2.2 (t510 != false) bt493.1 bt493.2.1 bt493.2.2 bt493.1 (wrap64 (bt493.2.1 + 1)) bt493.2.2 bt506.1 bt506.2.1))) else (partitalaw02_PitchSigns.j0 k t492 bt498.1 bt500.1 bt500.2 bt502.1 bt504.1 bt504.2 bt506.2.2 true bt493.1 bt493.2.1 bt493.2.2 bt493.1 (wrap64 (bt493.2.1 + 1)) bt493.2.2 bt506.1 bt506.2.1)) else (partitalaw02_PitchSigns.j0 k t492 bt498.1 bt500.1 bt500.2 bt502.1 bt504.1 bt504.2 bt506.2.2 true bt493.1 bt493.2.1 bt493.2.2 bt493.1 (wrap64 (bt493.2.1 + 1)) bt493.2.2 bt506.1 bt506.2.1)))))))) = some r := H
  have A2 := Aside0.mk A20
  clear A20
  replace H := Option.bind_eq_some_iff.mp H
  obtain ⟨⟨t493, t494, t495⟩, A30, H⟩ := H
  replace H : ((pitch_Number.f t493 t494 t495).bind fun bt498 => ((pitch_Number.f t493 (wrap64 (t494 + 1)) t495).bind fun bt500 => ((pitch_Line.f t493 t494 t495).bind fun bt502 => ((pitch_Line.f t493 (wrap64 (t494 + 1)) t495).bind fun bt504 => ((pitch_Between.f k t493 t494 t495 t493 (wrap64 (t494 + 1)) t495).bind fun bt506 => (if bt498.2 = 0 then (if bt502.2 = 0 then ((pitch_Right.f t493 (wrap64 (t494 + 1)) t495).bind fun t510 => (if t494 < 2 then (partitalaw02_PitchSigns.j0 k t492 bt498.1 bt500.1 bt500.2 bt502.1 bt504.1 bt504.2 bt506.2.2 (t510 != (decide (bt498.1 < 127))) t493 t494 t495 t493 (wrap64 (t494 + 1)) t495 bt506.1 bt506.2.1) else (partitalaw02_PitchSigns.j0 k t492 bt498.1 bt500.1 bt500.2 bt502.1 bt504.1 bt504.2 bt506.2.2 (t510 != false) t493 t494 t495 t493 (wrap64 (t494 + 1)) t495 bt506.1 bt506.2.1))) else (partitalaw02_PitchSigns.j0 k t492 bt498.1 bt500.1 bt500.2 bt502.1 bt504.1 bt504.2 bt506.2.2 true t493 t494 t495 t493 (wrap64 (t494 + 1)) t495 bt506.1 bt506.2.1)) else (partitalaw02_PitchSigns.j0 k t492 bt498.1 bt500.1 bt500.2 bt502.1 bt504.1 bt504.2 bt506.2.2 true t493 t494 t495 t493 (wrap64 (t494 + 1)) t495 bt506.1 bt506.2.1))))))) = some r := H
  have A3 := Aside0.mk A30
  clear A30
  replace H := Option.bind_eq_some_iff.mp H
  obtain ⟨⟨t498, t499⟩, A40, H⟩ := H
  replace H : ((pitch_Number.f t493 (wrap64 (t494 + 1)) t495).bind fun bt500 => ((pitch_Line.f t493 t494 t495).bind fun bt502 => ((pitch_Line.f t493 (wrap64 (t494 + 1)) t495).bind fun bt504 => ((pitch_Between.f k t493 t494 t495 t493 (wrap64 (t494 + 1)) t495).bind fun bt506 => (if t499 = 0 then (if bt502.2 = 0 then ((pitch_Right.f t493 (wrap64 (t494 + 1)) t495).bind fun t510 => (if t494 < 2 then (partitalaw02_PitchSigns.j0 k t492 t498 bt500.1 bt500.2 bt502.1 bt504.1 bt504.2 bt506.2.2 (t510 != (decide (t498 < 127))) t493 t494 t495 t493 (wrap64 (t494 + 1)) t495 bt506.1 bt506.2.1) else (partitalaw02_PitchSigns.j0 k t492 t498 bt500.1 bt500.2 bt502.1 bt504.1 bt504.2 bt506.2.2 (t510 != false) t493 t494 t495 t493 (wrap64 (t494 + 1)) t495 bt506.1 bt506.2.1))) else (partitalaw02_PitchSigns.j0 k t492 t498 bt500.1 bt500.2 bt502.1 bt504.1 bt504.2 bt506.2.2 true t493 t494 t495 t493 (wrap64 (t494 + 1)) t495 bt506.1 bt506.2.1)) else (partitalaw02_PitchSigns.j0 k t492 t498 bt500.1 bt500.2 bt502.1 bt504.1 bt504.2 bt506.2.2 true t493 t494 t495 t493 (wrap64 (t494 + 1)) t495 bt506.1 bt506.2.1)))))) = some r := H
  have A4 := Aside0.mk A40
  clear A40
  replace H := Option.bind_eq_some_iff.mp H
  obtain ⟨⟨t500, t501⟩, A50, H⟩ := H
  replace H : ((pitch_Line.f t493 t494 t495).bind fun bt502 => ((pitch_Line.f t493 (wrap64 (t494 + 1)) t495).bind fun bt504 => ((pitch_Between.f k t493 t494 t495 t493 (wrap64 (t494 + 1)) t495).bind fun bt506 => (if t499 = 0 then (if bt502.2 = 0 then ((pitch_Right.f t493 (wrap64 (t494 + 1)) t495).bind fun t510 => (if t494 < 2 then (partitalaw02_PitchSigns.j0 k t492 t498 t500 t501 bt502.1 bt504.1 bt504.2 bt506.2.2 (t510 != (decide (t498 < 127))) t493 t494 t495 t493 (wrap64 (t494 + 1)) t495 bt506.1 bt506.2.1) else (partitalaw02_PitchSigns.j0 k t492 t498 t500 t501 bt502.1 bt504.1 bt504.2 bt506.2.2 (t510 != false) t493 t494 t495 t493 (wrap64 (t494 + 1)) t495 bt506.1 bt506.2.1))) else (partitalaw02_PitchSigns.j0 k t492 t498 t500 t501 bt502.1 bt504.1 bt504.2 bt506.2.2 true t493 t494 t495 t493 (wrap64 (t494 + 1)) t495 bt506.1 bt506.2.1)) else (partitalaw02_PitchSigns.j0 k t492 t498 t500 t501 bt502.1 bt504.1 bt504.2 bt506.2.2 true t493 t494 t495 t493 (wrap64 (t494 + 1)) t495 bt506.1 bt506.2.1))))) = some r := H
  have A5 := Aside0.mk A50
  clear A50
  replace H := Option.bind_eq_some_iff.mp H
  obtain ⟨⟨t502, t503⟩, A60, H⟩ := H
  replace H : ((pitch_Line.f t493 (wrap64 (t494 + 1)) t495).bind fun bt504 => ((pitch_Between.f k t493 t494 t495 t493 (wrap64 (t494 + 1)) t495).bind fun bt506 => (if t499 = 0 then (if t503 = 0 then ((pitch_Right.f t493 (wrap64 (t494 + 1)) t495).bind fun t510 => (if t494 < 2 then (partitalaw02_PitchSigns.j0 k t492 t498 t500 t501 t502 bt504.1 bt504.2 bt506.2.2 (t510 != (decide (t498 < 127))) t493 t494 t495 t493 (wrap64 (t494 + 1)) t495 bt506.1 bt506.2.1) else (partitalaw02_PitchSigns.j0 k t492 t498 t500 t501 t502 bt504.1 bt504.2 bt506.2.2 (t510 != false) t493 t494 t495 t493 (wrap64 (t494 + 1)) t495 bt506.1 bt506.2.1))) else (partitalaw02_PitchSigns.j0 k t492 t498 t500 t501 t502 bt504.1 bt504.2 bt506.2.2 true t493 t494 t495 t493 (wrap64 (t494 + 1)) t495 bt506.1 bt506.2.1)) else (partitalaw02_PitchSigns.j0 k t492 t498 t500 t501 t502 bt504.1 bt504.2 bt506.2.2 true t493 t494 t495 t493 (wrap64 (t494 + 1)) t495 bt506.1 bt506.2.1)))) = some r := H
  have A6 := Aside0.mk A60
  clear A60
  replace H := Option.bind_eq_some_iff.mp H
  obtain ⟨⟨t504, t505⟩, A70, H⟩ := H
  replace H : ((pitch_Between.f k t493 t494 t495 t493 (wrap64 (t494 + 1)) t495).bind fun bt506 => (if t499 = 0 then (if t503 = 0 then ((pitch_Right.f t493 (wrap64 (t494 + 1)) t495).bind fun t510 => (if t494 < 2 then (partitalaw02_PitchSigns.j0 k t492 t498 t500 t501 t502 t504 t505 bt506.2.2 (t510 != (decide (t498 < 127))) t493 t494 t495 t493 (wrap64 (t494 + 1)) t495 bt506.1 bt506.2.1) else (partitalaw02_PitchSigns.j0 k t492 t498 t500 t501 t502 t504 t505 bt506.2.2 (t510 != false) t493 t494 t495 t493 (wrap64 (t494 + 1)) t495 bt506.1 bt506.2.1))) else (partitalaw02_PitchSigns.j0 k t492 t498 t500 t501 t502 t504 t505 bt506.2.2 true t493 t494 t495 t493 (wrap64 (t494 + 1)) t495 bt506.1 bt506.2.1)) else (partitalaw02_PitchSigns.j0 k t492 t498 t500 t501 t502 t504 t505 bt506.2.2 true t493 t494 t495 t493 (wrap64 (t494 + 1)) t495 bt506.1 bt506.2.1))) = some r := H
  have A7 := Aside0.mk A70
  clear A70
  replace H := Option.bind_eq_some_iff.mp H
  obtain ⟨⟨t506, t507, t508⟩, A80, H⟩ := H
  replace H : (if t499 = 0 then (if t503 = 0 then ((pitch_Right.f t493 (wrap64 (t494 + 1)) t495).bind fun t510 => (if t494 < 2 then (partitalaw02_PitchSigns.j0 k t492 t498 t500 t501 t502 t504 t505 t508 (t510 != (decide (t498 < 127))) t493 t494 t495 t493 (wrap64 (t494 + 1)) t495 t506 t507) else (partitalaw02_PitchSigns.j0 k t492 t498 t500 t501 t502 t504 t505 t508 (t510 != false) t493 t494 t495 t493 (wrap64 (t494 + 1)) t495 t506 t507))) else (partitalaw02_PitchSigns.j0 k t492 t498 t500 t501 t502 t504 t505 t508 true t493 t494 t495 t493 (wrap64 (t494 + 1)) t495 t506 t507)) else (partitalaw02_PitchSigns.j0 k t492 t498 t500 t501 t502 t504 t505 t508 true t493 t494 t495 t493 (wrap64 (t494 + 1)) t495 t506 t507)) = some r := H
  have A8 := Aside0.mk A80
  clear A80
  have HC9 := Aside0.mk H
  clear H
  go_enter Tryd.func11, Tryd.ntmps11
  go_upto_region 10 with (first | ((with_reducible refine gate_dst (N := 1) rfl ?_); refine box_event ?hg (N := 1) ?hd (cs := #[.int .i64 a0_0, .int .i64 a0_1, .int .i64 a0_2]) (t := 23) ?hr ?_; (case hd => rfl); (case hg => rfl); (case hr => first | (go_simp; done) | (go_simp; rfl)); intro gb491 hg w10 hbox hb; have n0_ := Aside0.mk (below_step (by repeat (first | (with_reducible first | exact HB.out | apply below_alloc | apply pw_below_drewN | apply below_drew1) | exact HB.out)) hb); have n1_ := Aside0.mk (hbox); have n2_ := Aside0.mk ((by rw [hg]; exact (below_size (by repeat (first | (with_reducible first | exact HB.out | apply below_alloc | apply pw_below_drewN | apply below_drew1) | exact HB.out))) : w.heap.size ≤ gb491)); have n3_ := n2_; clear HB; have HB := n0_; have BK491 := n1_; have GW491 := n2_; have GE491 := n3_; clear n0_ n1_ n2_ n3_; clear hb hbox hg) | ((with_reducible refine gate_callee (f := 12) rfl ?_); refine goesL_ (some 16) rfl rfl Tryd.func12 (by kernel_rfl) rfl #[] rfl (by (try simp only [List.map_toArray, List.map_cons, List.map_nil]); first | done | rfl) ?_; (with_reducible refine (partitalaw02_awake.calls k  t492 _ ?side1 A2.out).mono ?_); (case side1 => exact GW.step HG_.out (by repeat (first | (with_reducible first | exact HB.out | apply below_alloc | apply pw_below_drewN | apply below_drew1 | refine below_set ?_ GE491.out) | exact HB.out))); rintro e w11 ⟨rfl, hb⟩; refine ⟨_, rfl, ?_⟩; have n0_ := Aside0.mk (blk_below (g := gb491) (o := .cells #[.int .i64 a0_0, .int .i64 a0_1, .int .i64 a0_2] 23 (0, 0)) (by (with_reducible repeat (first | refine blk_drewN ?_ _ | refine blk_drew ?_ | refine blk_alloc ?_ _)); exact BK491.out) hb); have n1_ := Aside0.mk (below_step (by repeat (first | (with_reducible first | exact HB.out | apply below_alloc | apply pw_below_drewN | apply below_drew1 | refine below_set ?_ GE491.out) | exact HB.out)) hb); clear BK491; clear HB; have BK491 := n0_; have HB := n1_; clear n0_ n1_; (try clear hb); (try clear hb2); (try clear hk); (try clear hi); have hcz12_0 : w11.cell? ⟨gb491, 0, none⟩ = some (.int .i64 a0_0) := (blk_cell BK491.out 0).trans rfl; have hcz12_1 : w11.cell? ⟨gb491, 1, none⟩ = some (.int .i64 a0_1) := (blk_cell BK491.out 1).trans rfl; have hcz12_2 : w11.cell? ⟨gb491, 2, none⟩ = some (.int .i64 a0_2) := (blk_cell BK491.out 2).trans rfl; have hfz12_0 := blk_frozen BK491.out 0; have hfz12_1 := blk_frozen BK491.out 1; have hfz12_2 := blk_frozen BK491.out 2) | ((with_reducible refine gate_callee (f := 13) rfl ?_); refine goesL_ (some 18) rfl rfl Tryd.func13 (by kernel_rfl) rfl #[.agg #[.int .i64 a0_0, .int .i64 a0_1, .int .i64 a0_2]] rfl (by (try simp only [List.map_toArray, List.map_cons, List.map_nil]); first | done | rfl) ?_; (with_reducible refine (partitalaw02_Pitch.calls a0_0 a0_1 a0_2 t493 t494 t495 _ A3.out).mono ?_); rintro e w13 ⟨rfl, hb⟩; refine ⟨_, rfl, ?_⟩; have n0_ := Aside0.mk (blk_below (g := gb491) (o := .cells #[.int .i64 a0_0, .int .i64 a0_1, .int .i64 a0_2] 23 (0, 0)) (by (with_reducible repeat (first | refine blk_drewN ?_ _ | refine blk_drew ?_ | refine blk_alloc ?_ _)); exact BK491.out) hb); have n1_ := Aside0.mk (below_step (by repeat (first | (with_reducible first | exact HB.out | apply below_alloc | apply pw_below_drewN | apply below_drew1 | refine below_set ?_ GE491.out) | exact HB.out)) hb); clear BK491; clear HB; have BK491 := n0_; have HB := n1_; clear n0_ n1_; (try clear hb); (try clear hb2); (try clear hk); (try clear hi)) | ((with_reducible refine gate_dst (N := 4) rfl ?_); refine box_event ?hg (N := 4) ?hd (cs := #[.int .i64 0, .int .i64 0, .int .i64 0]) (t := 23) ?hr ?_; (case hd => rfl); (case hg => rfl); (case hr => first | (go_simp; done) | (go_simp; rfl)); intro gb496 hg w14 hbox hb; have n0_ := Aside0.mk (blk_below (g := gb491) (o := .cells #[.int .i64 a0_0, .int .i64 a0_1, .int .i64 a0_2] 23 (0, 0)) (by (with_reducible repeat (first | refine blk_drewN ?_ _ | refine blk_drew ?_ | refine blk_alloc ?_ _)); exact BK491.out) hb); have n1_ := Aside0.mk (below_step (by repeat (first | (with_reducible first | exact HB.out | apply below_alloc | apply pw_below_drewN | apply below_drew1 | refine below_set ?_ GE491.out) | exact HB.out)) hb); have n2_ := Aside0.mk (hbox); have n3_ := Aside0.mk ((by rw [hg]; exact (below_size (by repeat (first | (with_reducible first | exact HB.out | apply below_alloc | apply pw_below_drewN | apply below_drew1 | refine below_set ?_ GE491.out) | exact HB.out))) : w.heap.size ≤ gb496)); have n4_ := n3_; have n5_ := Aside0.mk ((by rw [hg]; exact Nat.ne_of_lt (blk_lt (g := gb491) (o := .cells #[.int .i64 a0_0, .int .i64 a0_1, .int .i64 a0_2] 23 (0, 0)) (by (with_reducible repeat (first | refine blk_drewN ?_ _ | refine blk_drew ?_ | refine blk_alloc ?_ _)); exact BK491.out)) : gb491 ≠ gb496)); have n6_ := Aside0.mk n5_.out.symm; clear BK491; clear HB; have BK491 := n0_; have HB := n1_; have BK496 := n2_; have GW496 := n3_; have GE496 := n4_; have NB491_496 := n5_; have NB496_491 := n6_; clear n0_ n1_ n2_ n3_ n4_ n5_ n6_; clear hb hbox hg; have hnb15 := NB496_491.out; have hnc15 := NB491_496.out; have hcz16_0 : w14.cell? ⟨gb496, 0, none⟩ = some (.int .i64 0) := (blk_cell BK496.out 0).trans rfl; have hcz16_1 : w14.cell? ⟨gb496, 1, none⟩ = some (.int .i64 0) := (blk_cell BK496.out 1).trans rfl; have hcz16_2 : w14.cell? ⟨gb496, 2, none⟩ = some (.int .i64 0) := (blk_cell BK496.out 2).trans rfl; have hfz16_0 := blk_frozen BK496.out 0; have hfz16_1 := blk_frozen BK496.out 1; have hfz16_2 := blk_frozen BK496.out 2) | ((with_reducible refine gate_dst (N := 5) rfl ?_); refine box_event ?hg (N := 5) ?hd (cs := #[.int .i64 0, .int .i64 0, .int .i64 0]) (t := 23) ?hr ?_; (case hd => rfl); (case hg => rfl); (case hr => first | (go_simp; done) | (go_simp; rfl)); intro gb497 hg w17 hbox hb; have n0_ := Aside0.mk (blk_below (g := gb491) (o := .cells #[.int .i64 a0_0, .int .i64 a0_1, .int .i64 a0_2] 23 (0, 0)) (by (with_reducible repeat (first | refine blk_drewN ?_ _ | refine blk_drew ?_ | refine blk_alloc ?_ _)); refine blk_far ?_ NB491_496.out _; (with_reducible repeat (first | refine blk_drewN ?_ _ | refine blk_drew ?_ | refine blk_alloc ?_ _)); refine blk_far ?_ NB491_496.out _; (with_reducible repeat (first | refine blk_drewN ?_ _ | refine blk_drew ?_ | refine blk_alloc ?_ _)); refine blk_far ?_ NB491_496.out _; (with_reducible repeat (first | refine blk_drewN ?_ _ | refine blk_drew ?_ | refine blk_alloc ?_ _)); exact BK491.out) hb); have n1_ := Aside0.mk (blk_below (g := gb496) (o := .cells #[.int .i64 t493, .int .i64 t494, .int .i64 t495] 23 (0, 0)) (by (with_reducible repeat (first | refine blk_drewN ?_ _ | refine blk_drew ?_ | refine blk_alloc ?_ _)); refine blk_put (cs := #[.int .i64 t493, .int .i64 t494, .int .i64 0]) ?_ 2 _ rfl; (with_reducible repeat (first | refine blk_drewN ?_ _ | refine blk_drew ?_ | refine blk_alloc ?_ _)); refine blk_put (cs := #[.int .i64 t493, .int .i64 0, .int .i64 0]) ?_ 1 _ rfl; (with_reducible repeat (first | refine blk_drewN ?_ _ | refine blk_drew ?_ | refine blk_alloc ?_ _)); refine blk_put (cs := #[.int .i64 0, .int .i64 0, .int .i64 0]) ?_ 0 _ rfl; (with_reducible repeat (first | refine blk_drewN ?_ _ | refine blk_drew ?_ | refine blk_alloc ?_ _)); exact BK496.out) hb); have n2_ := Aside0.mk (below_step (by repeat (first | (with_reducible first | exact HB.out | apply below_alloc | apply pw_below_drewN | apply below_drew1 | refine below_set ?_ GE491.out | refine below_set ?_ GE496.out) | exact HB.out)) hb); have n3_ := Aside0.mk (hbox); have n4_ := Aside0.mk ((by rw [hg]; exact (below_size (by repeat (first | (with_reducible first | exact HB.out | apply below_alloc | apply pw_below_drewN | apply below_drew1 | refine below_set ?_ GE491.out | refine below_set ?_ GE496.out) | exact HB.out))) : w.heap.size ≤ gb497)); have n5_ := n4_; have n6_ := Aside0.mk ((by rw [hg]; exact Nat.ne_of_lt (blk_lt (g := gb491) (o := .cells #[.int .i64 a0_0, .int .i64 a0_1, .int .i64 a0_2] 23 (0, 0)) (by (with_reducible repeat (first | refine blk_drewN ?_ _ | refine blk_drew ?_ | refine blk_alloc ?_ _)); refine blk_far ?_ NB491_496.out _; (with_reducible repeat (first | refine blk_drewN ?_ _ | refine blk_drew ?_ | refine blk_alloc ?_ _)); refine blk_far ?_ NB491_496.out _; (with_reducible repeat (first | refine blk_drewN ?_ _ | refine blk_drew ?_ | refine blk_alloc ?_ _)); refine blk_far ?_ NB491_496.out _; (with_reducible repeat (first | refine blk_drewN ?_ _ | refine blk_drew ?_ | refine blk_alloc ?_ _)); exact BK491.out)) : gb491 ≠ gb497)); have n7_ := Aside0.mk n6_.out.symm; have n8_ := Aside0.mk ((by rw [hg]; exact Nat.ne_of_lt (blk_lt (g := gb496) (o := .cells #[.int .i64 t493, .int .i64 t494, .int .i64 t495] 23 (0, 0)) (by (with_reducible repeat (first | refine blk_drewN ?_ _ | refine blk_drew ?_ | refine blk_alloc ?_ _)); refine blk_put (cs := #[.int .i64 t493, .int .i64 t494, .int .i64 0]) ?_ 2 _ rfl; (with_reducible repeat (first | refine blk_drewN ?_ _ | refine blk_drew ?_ | refine blk_alloc ?_ _)); refine blk_put (cs := #[.int .i64 t493, .int .i64 0, .int .i64 0]) ?_ 1 _ rfl; (with_reducible repeat (first | refine blk_drewN ?_ _ | refine blk_drew ?_ | refine blk_alloc ?_ _)); refine blk_put (cs := #[.int .i64 0, .int .i64 0, .int .i64 0]) ?_ 0 _ rfl; (with_reducible repeat (first | refine blk_drewN ?_ _ | refine blk_drew ?_ | refine blk_alloc ?_ _)); exact BK496.out)) : gb496 ≠ gb497)); have n9_ := Aside0.mk n8_.out.symm; clear BK491; clear BK496; clear HB; have BK491 := n0_; have BK496 := n1_; have HB := n2_; have BK497 := n3_; have GW497 := n4_; have GE497 := n5_; have NB491_497 := n6_; have NB497_491 := n7_; have NB496_497 := n8_; have NB497_496 := n9_; clear n0_ n1_ n2_ n3_ n4_ n5_ n6_ n7_ n8_ n9_; clear hb hbox hg; have hnb18 := NB497_491.out; have hnc18 := NB491_497.out; have hnb19 := NB497_496.out; have hnc19 := NB496_497.out; have hcz20_0 : w17.cell? ⟨gb497, 0, none⟩ = some (.int .i64 0) := (blk_cell BK497.out 0).trans rfl; have hcz20_1 : w17.cell? ⟨gb497, 1, none⟩ = some (.int .i64 0) := (blk_cell BK497.out 1).trans rfl; have hcz20_2 : w17.cell? ⟨gb497, 2, none⟩ = some (.int .i64 0) := (blk_cell BK497.out 2).trans rfl; have hfz20_0 := blk_frozen BK497.out 0; have hfz20_1 := blk_frozen BK497.out 1; have hfz20_2 := blk_frozen BK497.out 2; have hcz21_0 : w17.cell? ⟨gb496, 0, none⟩ = some (.int .i64 t493) := (blk_cell BK496.out 0).trans rfl; have hcz21_1 : w17.cell? ⟨gb496, 1, none⟩ = some (.int .i64 t494) := (blk_cell BK496.out 1).trans rfl; have hcz21_2 : w17.cell? ⟨gb496, 2, none⟩ = some (.int .i64 t495) := (blk_cell BK496.out 2).trans rfl; have hfz21_0 := blk_frozen BK496.out 0; have hfz21_1 := blk_frozen BK496.out 1; have hfz21_2 := blk_frozen BK496.out 2) | ((with_reducible refine gate_callee (f := 14) rfl ?_); refine goesL_ (some 26) rfl rfl Tryd.func14 (by kernel_rfl) rfl #[.agg #[.int .i64 t493, .int .i64 t494, .int .i64 t495]] rfl (by (try simp only [List.map_toArray, List.map_cons, List.map_nil]); first | done | rfl) ?_; (with_reducible refine (pitch_Number.calls t493 t494 t495 t498 t499 _ ?side1 A4.out).mono ?_); (case side1 => exact GW.step HG_.out (by repeat (first | (with_reducible first | exact HB.out | apply below_alloc | apply pw_below_drewN | apply below_drew1 | refine below_set ?_ GE491.out | refine below_set ?_ GE496.out | refine below_set ?_ GE497.out) | exact HB.out))); rintro e w22 ⟨rfl, hb⟩; refine ⟨_, rfl, ?_⟩; have n0_ := Aside0.mk (blk_below (g := gb491) (o := .cells #[.int .i64 a0_0, .int .i64 a0_1, .int .i64 a0_2] 23 (0, 0)) (by (with_reducible repeat (first | refine blk_drewN ?_ _ | refine blk_drew ?_ | refine blk_alloc ?_ _)); refine blk_far ?_ NB491_497.out _; (with_reducible repeat (first | refine blk_drewN ?_ _ | refine blk_drew ?_ | refine blk_alloc ?_ _)); refine blk_far ?_ NB491_497.out _; (with_reducible repeat (first | refine blk_drewN ?_ _ | refine blk_drew ?_ | refine blk_alloc ?_ _)); refine blk_far ?_ NB491_497.out _; (with_reducible repeat (first | refine blk_drewN ?_ _ | refine blk_drew ?_ | refine blk_alloc ?_ _)); refine blk_far ?_ NB491_497.out _; (with_reducible repeat (first | refine blk_drewN ?_ _ | refine blk_drew ?_ | refine blk_alloc ?_ _)); exact BK491.out) hb); have n1_ := Aside0.mk (blk_below (g := gb496) (o := .cells #[.int .i64 t493, .int .i64 t494, .int .i64 t495] 23 (0, 0)) (by (with_reducible repeat (first | refine blk_drewN ?_ _ | refine blk_drew ?_ | refine blk_alloc ?_ _)); refine blk_far ?_ NB496_497.out _; (with_reducible repeat (first | refine blk_drewN ?_ _ | refine blk_drew ?_ | refine blk_alloc ?_ _)); refine blk_far ?_ NB496_497.out _; (with_reducible repeat (first | refine blk_drewN ?_ _ | refine blk_drew ?_ | refine blk_alloc ?_ _)); refine blk_far ?_ NB496_497.out _; (with_reducible repeat (first | refine blk_drewN ?_ _ | refine blk_drew ?_ | refine blk_alloc ?_ _)); refine blk_far ?_ NB496_497.out _; (with_reducible repeat (first | refine blk_drewN ?_ _ | refine blk_drew ?_ | refine blk_alloc ?_ _)); exact BK496.out) hb); have n2_ := Aside0.mk (blk_below (g := gb497) (o := .cells #[.int .i64 t493, .int .i64 (wrap64 (t494 + 1)), .int .i64 t495] 23 (0, 0)) (by (with_reducible repeat (first | refine blk_drewN ?_ _ | refine blk_drew ?_ | refine blk_alloc ?_ _)); refine blk_put (cs := #[.int .i64 t493, .int .i64 t494, .int .i64 t495]) ?_ 1 _ rfl; (with_reducible repeat (first | refine blk_drewN ?_ _ | refine blk_drew ?_ | refine blk_alloc ?_ _)); refine blk_put (cs := #[.int .i64 t493, .int .i64 t494, .int .i64 0]) ?_ 2 _ rfl; (with_reducible repeat (first | refine blk_drewN ?_ _ | refine blk_drew ?_ | refine blk_alloc ?_ _)); refine blk_put (cs := #[.int .i64 t493, .int .i64 0, .int .i64 0]) ?_ 1 _ rfl; (with_reducible repeat (first | refine blk_drewN ?_ _ | refine blk_drew ?_ | refine blk_alloc ?_ _)); refine blk_put (cs := #[.int .i64 0, .int .i64 0, .int .i64 0]) ?_ 0 _ rfl; (with_reducible repeat (first | refine blk_drewN ?_ _ | refine blk_drew ?_ | refine blk_alloc ?_ _)); exact BK497.out) hb); have n3_ := Aside0.mk (below_step (by repeat (first | (with_reducible first | exact HB.out | apply below_alloc | apply pw_below_drewN | apply below_drew1 | refine below_set ?_ GE491.out | refine below_set ?_ GE496.out | refine below_set ?_ GE497.out) | exact HB.out)) hb); clear BK491; clear BK496; clear BK497; clear HB; have BK491 := n0_; have BK496 := n1_; have BK497 := n2_; have HB := n3_; clear n0_ n1_ n2_ n3_; (try clear hb); (try clear hb2); (try clear hk); (try clear hi); have hcz23_0 : w22.cell? ⟨gb497, 0, none⟩ = some (.int .i64 t493) := (blk_cell BK497.out 0).trans rfl; have hcz23_1 : w22.cell? ⟨gb497, 1, none⟩ = some (.int .i64 (wrap64 (t494 + 1))) := (blk_cell BK497.out 1).trans rfl; have hcz23_2 : w22.cell? ⟨gb497, 2, none⟩ = some (.int .i64 t495) := (blk_cell BK497.out 2).trans rfl; have hfz23_0 := blk_frozen BK497.out 0; have hfz23_1 := blk_frozen BK497.out 1; have hfz23_2 := blk_frozen BK497.out 2) | ((with_reducible refine gate_callee (f := 14) rfl ?_); refine goesL_ (some 31) rfl rfl Tryd.func14 (by kernel_rfl) rfl #[.agg #[.int .i64 t493, .int .i64 (wrap64 (t494 + 1)), .int .i64 t495]] rfl (by (try simp only [List.map_toArray, List.map_cons, List.map_nil]); first | done | rfl) ?_; (with_reducible refine (pitch_Number.calls t493 (wrap64 (t494 + 1)) t495 t500 t501 _ ?side1 A5.out).mono ?_); (case side1 => exact GW.step HG_.out (by repeat (first | (with_reducible first | exact HB.out | apply below_alloc | apply pw_below_drewN | apply below_drew1 | refine below_set ?_ GE491.out | refine below_set ?_ GE496.out | refine below_set ?_ GE497.out) | exact HB.out))); rintro e w24 ⟨rfl, hb⟩; refine ⟨_, rfl, ?_⟩; have n0_ := Aside0.mk (blk_below (g := gb491) (o := .cells #[.int .i64 a0_0, .int .i64 a0_1, .int .i64 a0_2] 23 (0, 0)) (by (with_reducible repeat (first | refine blk_drewN ?_ _ | refine blk_drew ?_ | refine blk_alloc ?_ _)); exact BK491.out) hb); have n1_ := Aside0.mk (blk_below (g := gb496) (o := .cells #[.int .i64 t493, .int .i64 t494, .int .i64 t495] 23 (0, 0)) (by (with_reducible repeat (first | refine blk_drewN ?_ _ | refine blk_drew ?_ | refine blk_alloc ?_ _)); exact BK496.out) hb); have n2_ := Aside0.mk (blk_below (g := gb497) (o := .cells #[.int .i64 t493, .int .i64 (wrap64 (t494 + 1)), .int .i64 t495] 23 (0, 0)) (by (with_reducible repeat (first | refine blk_drewN ?_ _ | refine blk_drew ?_ | refine blk_alloc ?_ _)); exact BK497.out) hb); have n3_ := Aside0.mk (below_step (by repeat (first | (with_reducible first | exact HB.out | apply below_alloc | apply pw_below_drewN | apply below_drew1 | refine below_set ?_ GE491.out | refine below_set ?_ GE496.out | refine below_set ?_ GE497.out) | exact HB.out)) hb); clear BK491; clear BK496; clear BK497; clear HB; have BK491 := n0_; have BK496 := n1_; have BK497 := n2_; have HB := n3_; clear n0_ n1_ n2_ n3_; (try clear hb); (try clear hb2); (try clear hk); (try clear hi); have hcz25_0 : w24.cell? ⟨gb496, 0, none⟩ = some (.int .i64 t493) := (blk_cell BK496.out 0).trans rfl; have hcz25_1 : w24.cell? ⟨gb496, 1, none⟩ = some (.int .i64 t494) := (blk_cell BK496.out 1).trans rfl; have hcz25_2 : w24.cell? ⟨gb496, 2, none⟩ = some (.int .i64 t495) := (blk_cell BK496.out 2).trans rfl; have hfz25_0 := blk_frozen BK496.out 0; have hfz25_1 := blk_frozen BK496.out 1; have hfz25_2 := blk_frozen BK496.out 2) | ((with_reducible refine gate_callee (f := 16) rfl ?_); refine goesL_ (some 36) rfl rfl Tryd.func16 (by kernel_rfl) rfl #[.agg #[.int .i64 t493, .int .i64 t494, .int .i64 t495]] rfl (by (try simp only [List.map_toArray, List.map_cons, List.map_nil]); first | done | rfl) ?_; (with_reducible refine (pitch_Line.calls t493 t494 t495 t502 t503 _ ?side1 A6.out).mono ?_); (case side1 => exact GW.step HG_.out (by repeat (first | (with_reducible first | exact HB.out | apply below_alloc | apply pw_below_drewN | apply below_drew1 | refine below_set ?_ GE491.out | refine below_set ?_ GE496.out | refine below_set ?_ GE497.out) | exact HB.out))); rintro e w26 ⟨rfl, hb⟩; refine ⟨_, rfl, ?_⟩; have n0_ := Aside0.mk (blk_below (g := gb491) (o := .cells #[.int .i64 a0_0, .int .i64 a0_1, .int .i64 a0_2] 23 (0, 0)) (by (with_reducible repeat (first | refine blk_drewN ?_ _ | refine blk_drew ?_ | refine blk_alloc ?_ _)); exact BK491.out) hb); have n1_ := Aside0.mk (blk_below (g := gb496) (o := .cells #[.int .i64 t493, .int .i64 t494, .int .i64 t495] 23 (0, 0)) (by (with_reducible repeat (first | refine blk_drewN ?_ _ | refine blk_drew ?_ | refine blk_alloc ?_ _)); exact BK496.out) hb); have n2_ := Aside0.mk (blk_below (g := gb497) (o := .cells #[.int .i64 t493, .int .i64 (wrap64 (t494 + 1)), .int .i64 t495] 23 (0, 0)) (by (with_reducible repeat (first | refine blk_drewN ?_ _ | refine blk_drew ?_ | refine blk_alloc ?_ _)); exact BK497.out) hb); have n3_ := Aside0.mk (below_step (by repeat (first | (with_reducible first | exact HB.out | apply below_alloc | apply pw_below_drewN | apply below_drew1 | refine below_set ?_ GE491.out | refine below_set ?_ GE496.out | refine below_set ?_ GE497.out) | exact HB.out)) hb); clear BK491; clear BK496; clear BK497; clear HB; have BK491 := n0_; have BK496 := n1_; have BK497 := n2_; have HB := n3_; clear n0_ n1_ n2_ n3_; (try clear hb); (try clear hb2); (try clear hk); (try clear hi); have hcz27_0 : w26.cell? ⟨gb497, 0, none⟩ = some (.int .i64 t493) := (blk_cell BK497.out 0).trans rfl; have hcz27_1 : w26.cell? ⟨gb497, 1, none⟩ = some (.int .i64 (wrap64 (t494 + 1))) := (blk_cell BK497.out 1).trans rfl; have hcz27_2 : w26.cell? ⟨gb497, 2, none⟩ = some (.int .i64 t495) := (blk_cell BK497.out 2).trans rfl; have hfz27_0 := blk_frozen BK497.out 0; have hfz27_1 := blk_frozen BK497.out 1; have hfz27_2 := blk_frozen BK497.out 2) | ((with_reducible refine gate_callee (f := 16) rfl ?_); refine goesL_ (some 41) rfl rfl Tryd.func16 (by kernel_rfl) rfl #[.agg #[.int .i64 t493, .int .i64 (wrap64 (t494 + 1)), .int .i64 t495]] rfl (by (try simp only [List.map_toArray, List.map_cons, List.map_nil]); first | done | rfl) ?_; (with_reducible refine (pitch_Line.calls t493 (wrap64 (t494 + 1)) t495 t504 t505 _ ?side1 A7.out).mono ?_); (case side1 => exact GW.step HG_.out (by repeat (first | (with_reducible first | exact HB.out | apply below_alloc | apply pw_below_drewN | apply below_drew1 | refine below_set ?_ GE491.out | refine below_set ?_ GE496.out | refine below_set ?_ GE497.out) | exact HB.out))); rintro e w28 ⟨rfl, hb⟩; refine ⟨_, rfl, ?_⟩; have n0_ := Aside0.mk (blk_below (g := gb491) (o := .cells #[.int .i64 a0_0, .int .i64 a0_1, .int .i64 a0_2] 23 (0, 0)) (by (with_reducible repeat (first | refine blk_drewN ?_ _ | refine blk_drew ?_ | refine blk_alloc ?_ _)); exact BK491.out) hb); have n1_ := Aside0.mk (blk_below (g := gb496) (o := .cells #[.int .i64 t493, .int .i64 t494, .int .i64 t495] 23 (0, 0)) (by (with_reducible repeat (first | refine blk_drewN ?_ _ | refine blk_drew ?_ | refine blk_alloc ?_ _)); exact BK496.out) hb); have n2_ := Aside0.mk (blk_below (g := gb497) (o := .cells #[.int .i64 t493, .int .i64 (wrap64 (t494 + 1)), .int .i64 t495] 23 (0, 0)) (by (with_reducible repeat (first | refine blk_drewN ?_ _ | refine blk_drew ?_ | refine blk_alloc ?_ _)); exact BK497.out) hb); have n3_ := Aside0.mk (below_step (by repeat (first | (with_reducible first | exact HB.out | apply below_alloc | apply pw_below_drewN | apply below_drew1 | refine below_set ?_ GE491.out | refine below_set ?_ GE496.out | refine below_set ?_ GE497.out) | exact HB.out)) hb); clear BK491; clear BK496; clear BK497; clear HB; have BK491 := n0_; have BK496 := n1_; have BK497 := n2_; have HB := n3_; clear n0_ n1_ n2_ n3_; (try clear hb); (try clear hb2); (try clear hk); (try clear hi); have hcz29_0 : w28.cell? ⟨gb496, 0, none⟩ = some (.int .i64 t493) := (blk_cell BK496.out 0).trans rfl; have hcz29_1 : w28.cell? ⟨gb496, 1, none⟩ = some (.int .i64 t494) := (blk_cell BK496.out 1).trans rfl; have hcz29_2 : w28.cell? ⟨gb496, 2, none⟩ = some (.int .i64 t495) := (blk_cell BK496.out 2).trans rfl; have hfz29_0 := blk_frozen BK496.out 0; have hfz29_1 := blk_frozen BK496.out 1; have hfz29_2 := blk_frozen BK496.out 2; have hcz30_0 : w28.cell? ⟨gb497, 0, none⟩ = some (.int .i64 t493) := (blk_cell BK497.out 0).trans rfl; have hcz30_1 : w28.cell? ⟨gb497, 1, none⟩ = some (.int .i64 (wrap64 (t494 + 1))) := (blk_cell BK497.out 1).trans rfl; have hcz30_2 : w28.cell? ⟨gb497, 2, none⟩ = some (.int .i64 t495) := (blk_cell BK497.out 2).trans rfl; have hfz30_0 := blk_frozen BK497.out 0; have hfz30_1 := blk_frozen BK497.out 1; have hfz30_2 := blk_frozen BK497.out 2) | ((with_reducible refine gate_callee (f := 25) rfl ?_); refine goesL_ (some 47) rfl rfl Tryd.func25 (by kernel_rfl) rfl #[.agg #[.int .i64 t493, .int .i64 t494, .int .i64 t495], .agg #[.int .i64 t493, .int .i64 (wrap64 (t494 + 1)), .int .i64 t495]] rfl (by (try simp only [List.map_toArray, List.map_cons, List.map_nil]); first | done | rfl) ?_; (with_reducible refine (pitch_Between.calls k t493 t494 t495 t493 (wrap64 (t494 + 1)) t495 t506 t507 t508 _ ?side1 A8.out).mono ?_); (case side1 => exact GW.step HG_.out (by repeat (first | (with_reducible first | exact HB.out | apply below_alloc | apply pw_below_drewN | apply below_drew1 | refine below_set ?_ GE491.out | refine below_set ?_ GE496.out | refine below_set ?_ GE497.out) | exact HB.out))); rintro e w31 ⟨rfl, hb⟩; refine ⟨_, rfl, ?_⟩; have n0_ := Aside0.mk (blk_below (g := gb491) (o := .cells #[.int .i64 a0_0, .int .i64 a0_1, .int .i64 a0_2] 23 (0, 0)) (by (with_reducible repeat (first | refine blk_drewN ?_ _ | refine blk_drew ?_ | refine blk_alloc ?_ _)); exact BK491.out) hb); have n1_ := Aside0.mk (blk_below (g := gb496) (o := .cells #[.int .i64 t493, .int .i64 t494, .int .i64 t495] 23 (0, 0)) (by (with_reducible repeat (first | refine blk_drewN ?_ _ | refine blk_drew ?_ | refine blk_alloc ?_ _)); exact BK496.out) hb); have n2_ := Aside0.mk (blk_below (g := gb497) (o := .cells #[.int .i64 t493, .int .i64 (wrap64 (t494 + 1)), .int .i64 t495] 23 (0, 0)) (by (with_reducible repeat (first | refine blk_drewN ?_ _ | refine blk_drew ?_ | refine blk_alloc ?_ _)); exact BK497.out) hb); have n3_ := Aside0.mk (below_step (by repeat (first | (with_reducible first | exact HB.out | apply below_alloc | apply pw_below_drewN | apply below_drew1 | refine below_set ?_ GE491.out | refine below_set ?_ GE496.out | refine below_set ?_ GE497.out) | exact HB.out)) hb); clear BK491; clear BK496; clear BK497; clear HB; have BK491 := n0_; have BK496 := n1_; have BK497 := n2_; have HB := n3_; clear n0_ n1_ n2_ n3_; (try clear hb); (try clear hb2); (try clear hk); (try clear hi)) | ((with_reducible refine gate_dst (N := 14) rfl ?_); refine box_event ?hg (N := 14) ?hd (cs := #[.int .i64 0, .int .i64 0]) (t := 25) ?hr ?_; (case hd => rfl); (case hg => rfl); (case hr => first | (go_simp; done) | (go_simp; rfl)); intro gb509 hg w32 hbox hb; have n0_ := Aside0.mk (blk_below (g := gb491) (o := .cells #[.int .i64 a0_0, .int .i64 a0_1, .int .i64 a0_2] 23 (0, 0)) (by (with_reducible repeat (first | refine blk_drewN ?_ _ | refine blk_drew ?_ | refine blk_alloc ?_ _)); exact BK491.out) hb); have n1_ := Aside0.mk (blk_below (g := gb496) (o := .cells #[.int .i64 t493, .int .i64 t494, .int .i64 t495] 23 (0, 0)) (by (with_reducible repeat (first | refine blk_drewN ?_ _ | refine blk_drew ?_ | refine blk_alloc ?_ _)); exact BK496.out) hb); have n2_ := Aside0.mk (blk_below (g := gb497) (o := .cells #[.int .i64 t493, .int .i64 (wrap64 (t494 + 1)), .int .i64 t495] 23 (0, 0)) (by (with_reducible repeat (first | refine blk_drewN ?_ _ | refine blk_drew ?_ | refine blk_alloc ?_ _)); exact BK497.out) hb); have n3_ := Aside0.mk (below_step (by repeat (first | (with_reducible first | exact HB.out | apply below_alloc | apply pw_below_drewN | apply below_drew1 | refine below_set ?_ GE491.out | refine below_set ?_ GE496.out | refine below_set ?_ GE497.out) | exact HB.out)) hb); have n4_ := Aside0.mk (hbox); have n5_ := Aside0.mk ((by rw [hg]; exact (below_size (by repeat (first | (with_reducible first | exact HB.out | apply below_alloc | apply pw_below_drewN | apply below_drew1 | refine below_set ?_ GE491.out | refine below_set ?_ GE496.out | refine below_set ?_ GE497.out) | exact HB.out))) : w.heap.size ≤ gb509)); have n6_ := n5_; have n7_ := Aside0.mk ((by rw [hg]; exact Nat.ne_of_lt (blk_lt (g := gb491) (o := .cells #[.int .i64 a0_0, .int .i64 a0_1, .int .i64 a0_2] 23 (0, 0)) (by (with_reducible repeat (first | refine blk_drewN ?_ _ | refine blk_drew ?_ | refine blk_alloc ?_ _)); exact BK491.out)) : gb491 ≠ gb509)); have n8_ := Aside0.mk n7_.out.symm; have n9_ := Aside0.mk ((by rw [hg]; exact Nat.ne_of_lt (blk_lt (g := gb496) (o := .cells #[.int .i64 t493, .int .i64 t494, .int .i64 t495] 23 (0, 0)) (by (with_reducible repeat (first | refine blk_drewN ?_ _ | refine blk_drew ?_ | refine blk_alloc ?_ _)); exact BK496.out)) : gb496 ≠ gb509)); have n10_ := Aside0.mk n9_.out.symm; have n11_ := Aside0.mk ((by rw [hg]; exact Nat.ne_of_lt (blk_lt (g := gb497) (o := .cells #[.int .i64 t493, .int .i64 (wrap64 (t494 + 1)), .int .i64 t495] 23 (0, 0)) (by (with_reducible repeat (first | refine blk_drewN ?_ _ | refine blk_drew ?_ | refine blk_alloc ?_ _)); exact BK497.out)) : gb497 ≠ gb509)); have n12_ := Aside0.mk n11_.out.symm; clear BK491; clear BK496; clear BK497; clear HB; have BK491 := n0_; have BK496 := n1_; have BK497 := n2_; have HB := n3_; have BK509 := n4_; have GW509 := n5_; have GE509 := n6_; have NB491_509 := n7_; have NB509_491 := n8_; have NB496_509 := n9_; have NB509_496 := n10_; have NB497_509 := n11_; have NB509_497 := n12_; clear n0_ n1_ n2_ n3_ n4_ n5_ n6_ n7_ n8_ n9_ n10_ n11_ n12_; clear hb hbox hg; have hnb33 := NB509_491.out; have hnc33 := NB491_509.out; have hnb34 := NB509_496.out; have hnc34 := NB496_509.out; have hnb35 := NB509_497.out; have hnc35 := NB497_509.out; have hcz36_0 : w32.cell? ⟨gb509, 0, none⟩ = some (.int .i64 0) := (blk_cell BK509.out 0).trans rfl; have hcz36_1 : w32.cell? ⟨gb509, 1, none⟩ = some (.int .i64 0) := (blk_cell BK509.out 1).trans rfl; have hfz36_0 := blk_frozen BK509.out 0; have hfz36_1 := blk_frozen BK509.out 1))
  (try simp only [Act.put, List.setIfInBounds_toArray, List.set_cons_zero, List.set_cons_succ])
  go_cut [67] (fun v67 wc => ∃ (kq : Nat) (x67_8 : Bool), v67 = .bool x67_8 ∧ Aside0 (partitalaw02_PitchSigns.j0 kq t492 t498 t500 t501 t502 t504 t505 t508 x67_8 t493 t494 t495 t493 (wrap64 (t494 + 1)) t495 t506 t507 = some r) ∧ Aside0 (kq ≤ k) ∧ Aside0 (wc.heap[gb491]? = some (.cells #[.int .i64 a0_0, .int .i64 a0_1, .int .i64 a0_2] 23 (0, 0))) ∧ Aside0 (wc.heap[gb496]? = some (.cells #[.int .i64 t493, .int .i64 t494, .int .i64 t495] 23 (0, 0))) ∧ Aside0 (wc.heap[gb497]? = some (.cells #[.int .i64 t493, .int .i64 (wrap64 (t494 + 1)), .int .i64 t495] 23 (0, 0))) ∧ Aside0 (wc.heap[gb509]? = some (.cells #[.int .i64 t506, .int .i64 t507] 25 (0, 0))) ∧ Aside0 (Below w.heap.size w wc))
  case first =>
    have H := HC9.out
    clear HC9
    by_cases c37 : t499 = 0
    · rw [if_pos c37] at H
      have c37b0 : (t499 == 0) = true := beq_iff_eq.mpr c37
      have c37b1 : (t499 != 0) = false := bne_eq_false_iff_eq.mpr c37
      clear c37
      (first | rw [c37b0] | (simp only [i64_w, i32_w]; rw [c37b0]) | skip)
      by_cases c38 : t503 = 0
      · rw [if_pos c38] at H
        have c38b0 : (t503 == 0) = true := beq_iff_eq.mpr c38
        have c38b1 : (t503 != 0) = false := bne_eq_false_iff_eq.mpr c38
        clear c38
        replace H := Option.bind_eq_some_iff.mp H
        obtain ⟨t510, A390, H⟩ := H
        replace H : (if t494 < 2 then (partitalaw02_PitchSigns.j0 k t492 t498 t500 t501 t502 t504 t505 t508 (t510 != (decide (t498 < 127))) t493 t494 t495 t493 (wrap64 (t494 + 1)) t495 t506 t507) else (partitalaw02_PitchSigns.j0 k t492 t498 t500 t501 t502 t504 t505 t508 (t510 != false) t493 t494 t495 t493 (wrap64 (t494 + 1)) t495 t506 t507)) = some r := H
        have A39 := Aside0.mk A390
        clear A390
        by_cases c40 : t494 < 2
        · rw [if_pos c40] at H
          have c40b0 : decide (t494 < 2) = true := decide_eq_true c40
          clear c40
          have H' := Aside0.mk H
          clear H
          try go_wp2
          have n0_ : Aside0 (((w32.setCell ⟨gb509, 0, none⟩ (.int .i64 t506)).setCell ⟨gb509, 1, none⟩ (.int .i64 t507)).heap[gb491]? = some (.cells #[.int .i64 a0_0, .int .i64 a0_1, .int .i64 a0_2] 23 (0, 0))) := ⟨by (with_reducible repeat (first | refine blk_drewN ?_ _ | refine blk_drew ?_ | refine blk_alloc ?_ _)); refine blk_far ?_ NB491_509.out _; (with_reducible repeat (first | refine blk_drewN ?_ _ | refine blk_drew ?_ | refine blk_alloc ?_ _)); refine blk_far ?_ NB491_509.out _; (with_reducible repeat (first | refine blk_drewN ?_ _ | refine blk_drew ?_ | refine blk_alloc ?_ _)); exact BK491.out⟩
          have n1_ : Aside0 (((w32.setCell ⟨gb509, 0, none⟩ (.int .i64 t506)).setCell ⟨gb509, 1, none⟩ (.int .i64 t507)).heap[gb496]? = some (.cells #[.int .i64 t493, .int .i64 t494, .int .i64 t495] 23 (0, 0))) := ⟨by (with_reducible repeat (first | refine blk_drewN ?_ _ | refine blk_drew ?_ | refine blk_alloc ?_ _)); refine blk_far ?_ NB496_509.out _; (with_reducible repeat (first | refine blk_drewN ?_ _ | refine blk_drew ?_ | refine blk_alloc ?_ _)); refine blk_far ?_ NB496_509.out _; (with_reducible repeat (first | refine blk_drewN ?_ _ | refine blk_drew ?_ | refine blk_alloc ?_ _)); exact BK496.out⟩
          have n2_ : Aside0 (((w32.setCell ⟨gb509, 0, none⟩ (.int .i64 t506)).setCell ⟨gb509, 1, none⟩ (.int .i64 t507)).heap[gb497]? = some (.cells #[.int .i64 t493, .int .i64 (wrap64 (t494 + 1)), .int .i64 t495] 23 (0, 0))) := ⟨by (with_reducible repeat (first | refine blk_drewN ?_ _ | refine blk_drew ?_ | refine blk_alloc ?_ _)); refine blk_far ?_ NB497_509.out _; (with_reducible repeat (first | refine blk_drewN ?_ _ | refine blk_drew ?_ | refine blk_alloc ?_ _)); refine blk_far ?_ NB497_509.out _; (with_reducible repeat (first | refine blk_drewN ?_ _ | refine blk_drew ?_ | refine blk_alloc ?_ _)); exact BK497.out⟩
          have n3_ : Aside0 (((w32.setCell ⟨gb509, 0, none⟩ (.int .i64 t506)).setCell ⟨gb509, 1, none⟩ (.int .i64 t507)).heap[gb509]? = some (.cells #[.int .i64 t506, .int .i64 t507] 25 (0, 0))) := ⟨by (with_reducible repeat (first | refine blk_drewN ?_ _ | refine blk_drew ?_ | refine blk_alloc ?_ _)); refine blk_put (cs := #[.int .i64 t506, .int .i64 0]) ?_ 1 _ rfl; (with_reducible repeat (first | refine blk_drewN ?_ _ | refine blk_drew ?_ | refine blk_alloc ?_ _)); refine blk_put (cs := #[.int .i64 0, .int .i64 0]) ?_ 0 _ rfl; (with_reducible repeat (first | refine blk_drewN ?_ _ | refine blk_drew ?_ | refine blk_alloc ?_ _)); exact BK509.out⟩
          have n4_ : Aside0 (Below w.heap.size w ((w32.setCell ⟨gb509, 0, none⟩ (.int .i64 t506)).setCell ⟨gb509, 1, none⟩ (.int .i64 t507))) := ⟨by repeat (first | (with_reducible first | exact HB.out | apply below_alloc | apply pw_below_drewN | apply below_drew1 | refine below_set ?_ GE491.out | refine below_set ?_ GE496.out | refine below_set ?_ GE497.out | refine below_set ?_ GE509.out) | exact HB.out)⟩
          (try clear BK491)
          (try clear BK496)
          (try clear BK497)
          (try clear BK509)
          (try clear HB)
          generalize ((w32.setCell ⟨gb509, 0, none⟩ (.int .i64 t506)).setCell ⟨gb509, 1, none⟩ (.int .i64 t507)) = w41 at n0_ n1_ n2_ n3_ n4_ ⊢
          have BK491 := n0_
          have BK496 := n1_
          have BK497 := n2_
          have BK509 := n3_
          have HB := n4_
          clear n0_ n1_ n2_ n3_ n4_
          have n0_ := Aside0.mk (blk_drew BK491.out)
          have n1_ := Aside0.mk (blk_drew BK496.out)
          have n2_ := Aside0.mk (blk_drew BK497.out)
          have n3_ := Aside0.mk (blk_drew BK509.out)
          have n4_ := Aside0.mk (below_drew1 HB.out)
          clear BK491
          clear BK496
          clear BK497
          clear BK509
          clear HB
          have BK491 := n0_
          have BK496 := n1_
          have BK497 := n2_
          have BK509 := n3_
          have HB := n4_
          clear n0_ n1_ n2_ n3_ n4_
          refine start_ (n := 18) (S := fun w' => w'.cell? ⟨gb497, 0, none⟩ = some (.int .i64 t493) ∧ w'.cell? ⟨gb497, 1, none⟩ = some (.int .i64 (wrap64 (t494 + 1))) ∧ w'.cell? ⟨gb497, 2, none⟩ = some (.int .i64 t495) ∧ w'.cell? ⟨gb496, 0, none⟩ = some (.int .i64 t493) ∧ w'.cell? ⟨gb496, 1, none⟩ = some (.int .i64 t494) ∧ w'.cell? ⟨gb496, 2, none⟩ = some (.int .i64 t495)) (ds := []) #[false, false, false, false, false, false, false, false, false, false, false, false, false, false, false, false, false, false] (by kernel_rfl) rfl rfl ⟨(blk_cell BK497.out 0).trans rfl, (blk_cell BK497.out 1).trans rfl, (blk_cell BK497.out 2).trans rfl, (blk_cell BK496.out 0).trans rfl, (blk_cell BK496.out 1).trans rfl, (blk_cell BK496.out 2).trans rfl⟩ (fun hHeld => ?_); refine with_tabW partitalaw02_PitchSigns.tab10 partitalaw02_PitchSigns.bits10 (fun HT_ HW_ => ?_)
          generalize w41.drew = w42 at BK491 BK496 BK497 BK509 HB hHeld ⊢
          refine pure_ (i := 0) (N := some 50) (v := ?_) (a' := ?_) #[true, false, false, false, false, false, false, false, false, false, false, false, false, false, false, false, false, false] rfl rfl (any_of HT_.out (by kernel_rfl)) (fun _ _ _ h => h) (Or.inl ⟨by rfl, ?_⟩) ?_ ?_
          rotate_left
          · intro w'
            go_simp
            with_reducible rfl
          rotate_left
          · simp only [Act.put, List.setIfInBounds_toArray, List.set_cons_zero, List.set_cons_succ, i64_w, i32_w]
            rfl
          refine pure_ (i := 1) (N := some 51) (v := ?_) (a' := ?_) #[true, true, false, false, false, false, false, false, false, false, false, false, false, false, false, false, false, false] rfl rfl (any_of HT_.out (by kernel_rfl)) (fun _ _ _ h => h) (Or.inl ⟨by rfl, ?_⟩) ?_ ?_
          rotate_left
          · intro w'
            go_simp
            with_reducible rfl
          rotate_left
          · simp only [Act.put, List.setIfInBounds_toArray, List.set_cons_zero, List.set_cons_succ, i64_w, i32_w]
            rfl
          refine pure_ (i := 2) (N := some 52) (v := ?_) (a' := ?_) #[true, true, true, false, false, false, false, false, false, false, false, false, false, false, false, false, false, false] rfl rfl (any_of HT_.out (by kernel_rfl)) (fun _ _ _ h => h) (Or.inl ⟨by rfl, ?_⟩) ?_ ?_
          rotate_left
          · intro w'
            go_simp
            with_reducible rfl
          rotate_left
          · simp only [Act.put, List.setIfInBounds_toArray, List.set_cons_zero, List.set_cons_succ, i64_w, i32_w]
            rfl
          refine pure_ (i := 3) (N := some 53) (v := ?_) (a' := ?_) #[true, true, true, true, false, false, false, false, false, false, false, false, false, false, false, false, false, false] rfl rfl (any_of HT_.out (by kernel_rfl)) (fun _ _ _ h => h) (Or.inl ⟨by rfl, ?_⟩) ?_ ?_
          rotate_left
          · intro w'
            go_simp
            with_reducible rfl
          rotate_left
          · simp only [Act.put, List.setIfInBounds_toArray, List.set_cons_zero, List.set_cons_succ, i64_w, i32_w]
            rfl
          refine pure_ (i := 4) (N := some 54) (v := ?_) (a' := ?_) #[true, true, true, true, true, false, false, false, false, false, false, false, false, false, false, false, false, false] rfl rfl (any_of HT_.out (by kernel_rfl)) (fun _ _ _ h => h) (Or.inl ⟨by rfl, ?_⟩) ?_ ?_
          rotate_left
          · intro w'
            go_simp
            with_reducible rfl
          rotate_left
          · simp only [Act.put, List.setIfInBounds_toArray, List.set_cons_zero, List.set_cons_succ, i64_w, i32_w]
            rfl
          refine pure_ (i := 5) (N := some 55) (v := ?_) (a' := ?_) #[true, true, true, true, true, true, false, false, false, false, false, false, false, false, false, false, false, false] rfl rfl (any_of HT_.out (by kernel_rfl)) (fun _ _ _ h => h) (Or.inl ⟨by rfl, ?_⟩) ?_ ?_
          rotate_left
          · intro w'
            go_simp
            with_reducible rfl
          rotate_left
          · simp only [Act.put, List.setIfInBounds_toArray, List.set_cons_zero, List.set_cons_succ, i64_w, i32_w]
            rfl
          refine pure_ (i := 6) (N := some 56) (v := ?_) (a' := ?_) #[true, true, true, true, true, true, true, false, false, false, false, false, false, false, false, false, false, false] rfl rfl (any_of HT_.out (by kernel_rfl)) (fun _ _ _ h => h) (Or.inl ⟨by rfl, ?_⟩) ?_ ?_
          rotate_left
          · intro w'
            go_simp
            with_reducible rfl
          rotate_left
          · simp only [Act.put, List.setIfInBounds_toArray, List.set_cons_zero, List.set_cons_succ, i64_w, i32_w]
            rfl
          refine pure_ (i := 9) (N := some 59) (v := ?_) (a' := ?_) #[true, true, true, true, true, true, true, false, false, true, false, false, false, false, false, false, false, false] rfl rfl (any_of HT_.out (by kernel_rfl)) (fun _ _ _ h => h) (Or.inl ⟨by rfl, ?_⟩) ?_ ?_
          rotate_left
          · intro w'
            go_simp
            with_reducible rfl
          rotate_left
          · simp only [Act.put, List.setIfInBounds_toArray, List.set_cons_zero, List.set_cons_succ, i64_w, i32_w]
            rfl
          refine take_ (i := 7) (N := some 57) (v := ?_) (a' := ?_) #[true, true, true, true, true, true, true, true, false, true, false, false, false, false, false, false, false, false] rfl rfl (take_ofW HT_.out HW_.out (by kernel_rfl)) (fun _ _ _ h => h) (Or.inl ⟨by rfl, ?_⟩) hHeld ?_ ?_
          rotate_left
          · rintro w' ⟨s0, s1, s2, s3, s4, s5⟩
            go_simp
            with_reducible rfl
          rotate_left
          · simp only [Act.put, List.setIfInBounds_toArray, List.set_cons_zero, List.set_cons_succ, i64_w, i32_w]
            rfl
          refine take_ (i := 10) (N := some 60) (v := ?_) (a' := ?_) #[true, true, true, true, true, true, true, true, false, true, true, false, false, false, false, false, false, false] rfl rfl (take_ofW HT_.out HW_.out (by kernel_rfl)) (fun _ _ _ h => h) (Or.inl ⟨by rfl, ?_⟩) hHeld ?_ ?_
          rotate_left
          · rintro w' ⟨s0, s1, s2, s3, s4, s5⟩
            go_simp
            with_reducible rfl
          rotate_left
          · simp only [Act.put, List.setIfInBounds_toArray, List.set_cons_zero, List.set_cons_succ, i64_w, i32_w]
            rfl
          refine pure_ (i := 11) (N := some 61) (v := ?_) (a' := ?_) #[true, true, true, true, true, true, true, true, false, true, true, true, false, false, false, false, false, false] rfl rfl (any_of HT_.out (by kernel_rfl)) (fun _ _ _ h => h) (Or.inl ⟨by rfl, ?_⟩) ?_ ?_
          rotate_left
          · intro w'
            go_simp
            with_reducible rfl
          rotate_left
          · simp only [Act.put, List.setIfInBounds_toArray, List.set_cons_zero, List.set_cons_succ, i64_w, i32_w]
            rfl
          refine one_ (i := 8) (N := some 58) #[true, true, true, true, true, true, true, true, true, true, true, true, false, false, false, false, false, false] rfl rfl (one_of HT_.out (by kernel_rfl)) (by decide) (fun K hK => ?_)
          refine goes_ Tryd.func20 (by kernel_rfl) rfl #[.agg #[.int .i64 t493, .int .i64 (wrap64 (t494 + 1)), .int .i64 t495]] (by rfl) rfl rfl (by (try simp only [List.map_toArray, List.map_cons, List.map_nil]); first | done | rfl) ?_
          with_reducible refine (pitch_Right.calls t493 (wrap64 (t494 + 1)) t495 t510 _ ?side1 A39.out).mono ?_
          (case side1 => exact GW.step HG_.out (by repeat (first | (with_reducible first | exact HB.out | apply below_alloc | apply pw_below_drewN | apply below_drew1 | refine below_set ?_ GE491.out | refine below_set ?_ GE496.out | refine below_set ?_ GE497.out | refine below_set ?_ GE509.out) | exact HB.out)))
          rintro e w43 ⟨rfl, hb⟩
          refine ⟨_, rfl, ?_⟩
          have n0_ := Aside0.mk (blk_below (g := gb491) (o := .cells #[.int .i64 a0_0, .int .i64 a0_1, .int .i64 a0_2] 23 (0, 0)) (by (with_reducible repeat (first | refine blk_drewN ?_ _ | refine blk_drew ?_ | refine blk_alloc ?_ _)); exact BK491.out) hb)
          have n1_ := Aside0.mk (blk_below (g := gb496) (o := .cells #[.int .i64 t493, .int .i64 t494, .int .i64 t495] 23 (0, 0)) (by (with_reducible repeat (first | refine blk_drewN ?_ _ | refine blk_drew ?_ | refine blk_alloc ?_ _)); exact BK496.out) hb)
          have n2_ := Aside0.mk (blk_below (g := gb497) (o := .cells #[.int .i64 t493, .int .i64 (wrap64 (t494 + 1)), .int .i64 t495] 23 (0, 0)) (by (with_reducible repeat (first | refine blk_drewN ?_ _ | refine blk_drew ?_ | refine blk_alloc ?_ _)); exact BK497.out) hb)
          have n3_ := Aside0.mk (blk_below (g := gb509) (o := .cells #[.int .i64 t506, .int .i64 t507] 25 (0, 0)) (by (with_reducible repeat (first | refine blk_drewN ?_ _ | refine blk_drew ?_ | refine blk_alloc ?_ _)); exact BK509.out) hb)
          have n4_ := Aside0.mk (below_step (by repeat (first | (with_reducible first | exact HB.out | apply below_alloc | apply pw_below_drewN | apply below_drew1 | refine below_set ?_ GE491.out | refine below_set ?_ GE496.out | refine below_set ?_ GE497.out | refine below_set ?_ GE509.out) | exact HB.out)) hb)
          clear BK491
          clear BK496
          clear BK497
          clear BK509
          clear HB
          have BK491 := n0_
          have BK496 := n1_
          have BK497 := n2_
          have BK509 := n3_
          have HB := n4_
          clear n0_ n1_ n2_ n3_ n4_
          (try clear hb)
          (try clear hb2)
          (try clear hk)
          (try clear hi)
          refine hK.out _ _ ⟨(blk_cell BK497.out 0).trans rfl, (blk_cell BK497.out 1).trans rfl, (blk_cell BK497.out 2).trans rfl, (blk_cell BK496.out 0).trans rfl, (blk_cell BK496.out 1).trans rfl, (blk_cell BK496.out 2).trans rfl⟩ (fun hHeld => ?_)
          clear hK K
          refine norm_ (a' := ?_) ?_ ?_
          rotate_left
          · show Act.put _ (some 58) _ = _
            simp only [Act.put, List.setIfInBounds_toArray, List.set_cons_zero, List.set_cons_succ, i64_w, i32_w]
            rfl
          refine pure_ (i := 12) (N := some 62) (v := ?_) (a' := ?_) #[true, true, true, true, true, true, true, true, true, true, true, true, true, false, false, false, false, false] rfl rfl (any_of HT_.out (by kernel_rfl)) (fun _ _ _ h => h) (Or.inl ⟨by rfl, ?_⟩) ?_ ?_
          rotate_left
          · intro w'
            go_simp
            with_reducible rfl
          rotate_left
          · simp only [Act.put, List.setIfInBounds_toArray, List.set_cons_zero, List.set_cons_succ, i64_w, i32_w]
            rfl
          refine pure_ (i := 13) (N := some 63) (v := ?_) (a' := ?_) #[true, true, true, true, true, true, true, true, true, true, true, true, true, true, false, false, false, false] rfl rfl (any_of HT_.out (by kernel_rfl)) (fun _ _ _ h => h) (Or.inl ⟨by rfl, ?_⟩) ?_ ?_
          rotate_left
          · intro w'
            go_simp
            with_reducible rfl
          rotate_left
          · simp only [Act.put, List.setIfInBounds_toArray, List.set_cons_zero, List.set_cons_succ, i64_w, i32_w]
            rfl
          refine pure_ (i := 14) (N := some 64) (v := ?_) (a' := ?_) #[true, true, true, true, true, true, true, true, true, true, true, true, true, true, true, false, false, false] rfl rfl (any_of HT_.out (by kernel_rfl)) (fun _ _ _ h => h) (Or.inl ⟨by rfl, ?_⟩) ?_ ?_
          rotate_left
          · intro w'
            go_simp
            with_reducible rfl
          rotate_left
          · simp only [Act.put, List.setIfInBounds_toArray, List.set_cons_zero, List.set_cons_succ, i64_w, i32_w]
            rfl
          refine pure_ (i := 15) (N := some 65) (v := ?_) (a' := ?_) #[true, true, true, true, true, true, true, true, true, true, true, true, true, true, true, true, false, false] rfl rfl (any_of HT_.out (by kernel_rfl)) (fun _ _ _ h => h) (Or.inl ⟨by rfl, ?_⟩) ?_ ?_
          rotate_left
          · intro w'
            go_simp
            with_reducible rfl
          rotate_left
          · simp only [Act.put, List.setIfInBounds_toArray, List.set_cons_zero, List.set_cons_succ, i64_w, i32_w]
            rfl
          refine pure_ (i := 16) (N := some 66) (v := ?_) (a' := ?_) #[true, true, true, true, true, true, true, true, true, true, true, true, true, true, true, true, true, false] rfl rfl (any_of HT_.out (by kernel_rfl)) (fun _ _ _ h => h) (Or.inl ⟨by rfl, ?_⟩) ?_ ?_
          rotate_left
          · intro w'
            go_simp
            with_reducible rfl
          rotate_left
          · simp only [Act.put, List.setIfInBounds_toArray, List.set_cons_zero, List.set_cons_succ, i64_w, i32_w]
            rfl
          refine pure_ (i := 17) (N := some 67) (v := ?_) (a' := ?_) #[true, true, true, true, true, true, true, true, true, true, true, true, true, true, true, true, true, true] rfl rfl (any_of HT_.out (by kernel_rfl)) (fun _ _ _ h => h) (Or.inl ⟨by rfl, ?_⟩) ?_ ?_
          rotate_left
          · intro w'
            go_simp
            with_reducible rfl
          rotate_left
          · simp only [Act.put, List.setIfInBounds_toArray, List.set_cons_zero, List.set_cons_succ, i64_w, i32_w]
            rfl
          refine done_ (done_of HT_.out (by kernel_rfl)) ?_
          try go_wp2
          go_meet
          case rel => exact ⟨_, ((t510 != (decide (t498 < 127)))), (by first | rfl | (simp; done) | (simp [*]; done)), H', ⟨by first | omega | exact Nat.le_refl _⟩, ⟨by (with_reducible repeat (first | refine blk_drewN ?_ _ | refine blk_drew ?_ | refine blk_alloc ?_ _)); exact BK491.out⟩, ⟨by (with_reducible repeat (first | refine blk_drewN ?_ _ | refine blk_drew ?_ | refine blk_alloc ?_ _)); exact BK496.out⟩, ⟨by (with_reducible repeat (first | refine blk_drewN ?_ _ | refine blk_drew ?_ | refine blk_alloc ?_ _)); exact BK497.out⟩, ⟨by (with_reducible repeat (first | refine blk_drewN ?_ _ | refine blk_drew ?_ | refine blk_alloc ?_ _)); exact BK509.out⟩, ⟨by repeat (first | (with_reducible first | exact HB.out | apply below_alloc | apply pw_below_drewN | apply below_drew1 | refine below_set ?_ GE491.out | refine below_set ?_ GE496.out | refine below_set ?_ GE497.out | refine below_set ?_ GE509.out) | exact HB.out)⟩⟩
        · rw [if_neg c40] at H
          have c40b0 : decide (t494 < 2) = false := decide_eq_false c40
          clear c40
          have H' := Aside0.mk H
          clear H
          try go_wp2
          have n0_ : Aside0 (((w32.setCell ⟨gb509, 0, none⟩ (.int .i64 t506)).setCell ⟨gb509, 1, none⟩ (.int .i64 t507)).heap[gb491]? = some (.cells #[.int .i64 a0_0, .int .i64 a0_1, .int .i64 a0_2] 23 (0, 0))) := ⟨by (with_reducible repeat (first | refine blk_drewN ?_ _ | refine blk_drew ?_ | refine blk_alloc ?_ _)); refine blk_far ?_ NB491_509.out _; (with_reducible repeat (first | refine blk_drewN ?_ _ | refine blk_drew ?_ | refine blk_alloc ?_ _)); refine blk_far ?_ NB491_509.out _; (with_reducible repeat (first | refine blk_drewN ?_ _ | refine blk_drew ?_ | refine blk_alloc ?_ _)); exact BK491.out⟩
          have n1_ : Aside0 (((w32.setCell ⟨gb509, 0, none⟩ (.int .i64 t506)).setCell ⟨gb509, 1, none⟩ (.int .i64 t507)).heap[gb496]? = some (.cells #[.int .i64 t493, .int .i64 t494, .int .i64 t495] 23 (0, 0))) := ⟨by (with_reducible repeat (first | refine blk_drewN ?_ _ | refine blk_drew ?_ | refine blk_alloc ?_ _)); refine blk_far ?_ NB496_509.out _; (with_reducible repeat (first | refine blk_drewN ?_ _ | refine blk_drew ?_ | refine blk_alloc ?_ _)); refine blk_far ?_ NB496_509.out _; (with_reducible repeat (first | refine blk_drewN ?_ _ | refine blk_drew ?_ | refine blk_alloc ?_ _)); exact BK496.out⟩
          have n2_ : Aside0 (((w32.setCell ⟨gb509, 0, none⟩ (.int .i64 t506)).setCell ⟨gb509, 1, none⟩ (.int .i64 t507)).heap[gb497]? = some (.cells #[.int .i64 t493, .int .i64 (wrap64 (t494 + 1)), .int .i64 t495] 23 (0, 0))) := ⟨by (with_reducible repeat (first | refine blk_drewN ?_ _ | refine blk_drew ?_ | refine blk_alloc ?_ _)); refine blk_far ?_ NB497_509.out _; (with_reducible repeat (first | refine blk_drewN ?_ _ | refine blk_drew ?_ | refine blk_alloc ?_ _)); refine blk_far ?_ NB497_509.out _; (with_reducible repeat (first | refine blk_drewN ?_ _ | refine blk_drew ?_ | refine blk_alloc ?_ _)); exact BK497.out⟩
          have n3_ : Aside0 (((w32.setCell ⟨gb509, 0, none⟩ (.int .i64 t506)).setCell ⟨gb509, 1, none⟩ (.int .i64 t507)).heap[gb509]? = some (.cells #[.int .i64 t506, .int .i64 t507] 25 (0, 0))) := ⟨by (with_reducible repeat (first | refine blk_drewN ?_ _ | refine blk_drew ?_ | refine blk_alloc ?_ _)); refine blk_put (cs := #[.int .i64 t506, .int .i64 0]) ?_ 1 _ rfl; (with_reducible repeat (first | refine blk_drewN ?_ _ | refine blk_drew ?_ | refine blk_alloc ?_ _)); refine blk_put (cs := #[.int .i64 0, .int .i64 0]) ?_ 0 _ rfl; (with_reducible repeat (first | refine blk_drewN ?_ _ | refine blk_drew ?_ | refine blk_alloc ?_ _)); exact BK509.out⟩
          have n4_ : Aside0 (Below w.heap.size w ((w32.setCell ⟨gb509, 0, none⟩ (.int .i64 t506)).setCell ⟨gb509, 1, none⟩ (.int .i64 t507))) := ⟨by repeat (first | (with_reducible first | exact HB.out | apply below_alloc | apply pw_below_drewN | apply below_drew1 | refine below_set ?_ GE491.out | refine below_set ?_ GE496.out | refine below_set ?_ GE497.out | refine below_set ?_ GE509.out) | exact HB.out)⟩
          (try clear BK491)
          (try clear BK496)
          (try clear BK497)
          (try clear BK509)
          (try clear HB)
          generalize ((w32.setCell ⟨gb509, 0, none⟩ (.int .i64 t506)).setCell ⟨gb509, 1, none⟩ (.int .i64 t507)) = w44 at n0_ n1_ n2_ n3_ n4_ ⊢
          have BK491 := n0_
          have BK496 := n1_
          have BK497 := n2_
          have BK509 := n3_
          have HB := n4_
          clear n0_ n1_ n2_ n3_ n4_
          have n0_ := Aside0.mk (blk_drew BK491.out)
          have n1_ := Aside0.mk (blk_drew BK496.out)
          have n2_ := Aside0.mk (blk_drew BK497.out)
          have n3_ := Aside0.mk (blk_drew BK509.out)
          have n4_ := Aside0.mk (below_drew1 HB.out)
          clear BK491
          clear BK496
          clear BK497
          clear BK509
          clear HB
          have BK491 := n0_
          have BK496 := n1_
          have BK497 := n2_
          have BK509 := n3_
          have HB := n4_
          clear n0_ n1_ n2_ n3_ n4_
          refine start_ (n := 18) (S := fun w' => w'.cell? ⟨gb497, 0, none⟩ = some (.int .i64 t493) ∧ w'.cell? ⟨gb497, 1, none⟩ = some (.int .i64 (wrap64 (t494 + 1))) ∧ w'.cell? ⟨gb497, 2, none⟩ = some (.int .i64 t495) ∧ w'.cell? ⟨gb496, 0, none⟩ = some (.int .i64 t493) ∧ w'.cell? ⟨gb496, 1, none⟩ = some (.int .i64 t494) ∧ w'.cell? ⟨gb496, 2, none⟩ = some (.int .i64 t495)) (ds := []) #[false, false, false, false, false, false, false, false, false, false, false, false, false, false, false, false, false, false] (by kernel_rfl) rfl rfl ⟨(blk_cell BK497.out 0).trans rfl, (blk_cell BK497.out 1).trans rfl, (blk_cell BK497.out 2).trans rfl, (blk_cell BK496.out 0).trans rfl, (blk_cell BK496.out 1).trans rfl, (blk_cell BK496.out 2).trans rfl⟩ (fun hHeld => ?_); refine with_tabW partitalaw02_PitchSigns.tab10 partitalaw02_PitchSigns.bits10 (fun HT_ HW_ => ?_)
          generalize w44.drew = w45 at BK491 BK496 BK497 BK509 HB hHeld ⊢
          refine pure_ (i := 0) (N := some 50) (v := ?_) (a' := ?_) #[true, false, false, false, false, false, false, false, false, false, false, false, false, false, false, false, false, false] rfl rfl (any_of HT_.out (by kernel_rfl)) (fun _ _ _ h => h) (Or.inl ⟨by rfl, ?_⟩) ?_ ?_
          rotate_left
          · intro w'
            go_simp
            with_reducible rfl
          rotate_left
          · simp only [Act.put, List.setIfInBounds_toArray, List.set_cons_zero, List.set_cons_succ, i64_w, i32_w]
            rfl
          refine pure_ (i := 1) (N := some 51) (v := ?_) (a' := ?_) #[true, true, false, false, false, false, false, false, false, false, false, false, false, false, false, false, false, false] rfl rfl (any_of HT_.out (by kernel_rfl)) (fun _ _ _ h => h) (Or.inl ⟨by rfl, ?_⟩) ?_ ?_
          rotate_left
          · intro w'
            go_simp
            with_reducible rfl
          rotate_left
          · simp only [Act.put, List.setIfInBounds_toArray, List.set_cons_zero, List.set_cons_succ, i64_w, i32_w]
            rfl
          refine pure_ (i := 2) (N := some 52) (v := ?_) (a' := ?_) #[true, true, true, false, false, false, false, false, false, false, false, false, false, false, false, false, false, false] rfl rfl (any_of HT_.out (by kernel_rfl)) (fun _ _ _ h => h) (Or.inl ⟨by rfl, ?_⟩) ?_ ?_
          rotate_left
          · intro w'
            go_simp
            with_reducible rfl
          rotate_left
          · simp only [Act.put, List.setIfInBounds_toArray, List.set_cons_zero, List.set_cons_succ, i64_w, i32_w]
            rfl
          refine pure_ (i := 3) (N := some 53) (v := ?_) (a' := ?_) #[true, true, true, true, false, false, false, false, false, false, false, false, false, false, false, false, false, false] rfl rfl (any_of HT_.out (by kernel_rfl)) (fun _ _ _ h => h) (Or.inl ⟨by rfl, ?_⟩) ?_ ?_
          rotate_left
          · intro w'
            go_simp
            with_reducible rfl
          rotate_left
          · simp only [Act.put, List.setIfInBounds_toArray, List.set_cons_zero, List.set_cons_succ, i64_w, i32_w]
            rfl
          refine pure_ (i := 4) (N := some 54) (v := ?_) (a' := ?_) #[true, true, true, true, true, false, false, false, false, false, false, false, false, false, false, false, false, false] rfl rfl (any_of HT_.out (by kernel_rfl)) (fun _ _ _ h => h) (Or.inl ⟨by rfl, ?_⟩) ?_ ?_
          rotate_left
          · intro w'
            go_simp
            with_reducible rfl
          rotate_left
          · simp only [Act.put, List.setIfInBounds_toArray, List.set_cons_zero, List.set_cons_succ, i64_w, i32_w]
            rfl
          refine pure_ (i := 5) (N := some 55) (v := ?_) (a' := ?_) #[true, true, true, true, true, true, false, false, false, false, false, false, false, false, false, false, false, false] rfl rfl (any_of HT_.out (by kernel_rfl)) (fun _ _ _ h => h) (Or.inl ⟨by rfl, ?_⟩) ?_ ?_
          rotate_left
          · intro w'
            go_simp
            with_reducible rfl
          rotate_left
          · simp only [Act.put, List.setIfInBounds_toArray, List.set_cons_zero, List.set_cons_succ, i64_w, i32_w]
            rfl
          refine pure_ (i := 6) (N := some 56) (v := ?_) (a' := ?_) #[true, true, true, true, true, true, true, false, false, false, false, false, false, false, false, false, false, false] rfl rfl (any_of HT_.out (by kernel_rfl)) (fun _ _ _ h => h) (Or.inl ⟨by rfl, ?_⟩) ?_ ?_
          rotate_left
          · intro w'
            go_simp
            with_reducible rfl
          rotate_left
          · simp only [Act.put, List.setIfInBounds_toArray, List.set_cons_zero, List.set_cons_succ, i64_w, i32_w]
            rfl
          refine pure_ (i := 9) (N := some 59) (v := ?_) (a' := ?_) #[true, true, true, true, true, true, true, false, false, true, false, false, false, false, false, false, false, false] rfl rfl (any_of HT_.out (by kernel_rfl)) (fun _ _ _ h => h) (Or.inl ⟨by rfl, ?_⟩) ?_ ?_
          rotate_left
          · intro w'
            go_simp
            with_reducible rfl
          rotate_left
          · simp only [Act.put, List.setIfInBounds_toArray, List.set_cons_zero, List.set_cons_succ, i64_w, i32_w]
            rfl
          refine take_ (i := 7) (N := some 57) (v := ?_) (a' := ?_) #[true, true, true, true, true, true, true, true, false, true, false, false, false, false, false, false, false, false] rfl rfl (take_ofW HT_.out HW_.out (by kernel_rfl)) (fun _ _ _ h => h) (Or.inl ⟨by rfl, ?_⟩) hHeld ?_ ?_
          rotate_left
          · rintro w' ⟨s0, s1, s2, s3, s4, s5⟩
            go_simp
            with_reducible rfl
          rotate_left
          · simp only [Act.put, List.setIfInBounds_toArray, List.set_cons_zero, List.set_cons_succ, i64_w, i32_w]
            rfl
          refine take_ (i := 10) (N := some 60) (v := ?_) (a' := ?_) #[true, true, true, true, true, true, true, true, false, true, true, false, false, false, false, false, false, false] rfl rfl (take_ofW HT_.out HW_.out (by kernel_rfl)) (fun _ _ _ h => h) (Or.inl ⟨by rfl, ?_⟩) hHeld ?_ ?_
          rotate_left
          · rintro w' ⟨s0, s1, s2, s3, s4, s5⟩
            go_simp
            with_reducible rfl
          rotate_left
          · simp only [Act.put, List.setIfInBounds_toArray, List.set_cons_zero, List.set_cons_succ, i64_w, i32_w]
            rfl
          refine pure_ (i := 11) (N := some 61) (v := ?_) (a' := ?_) #[true, true, true, true, true, true, true, true, false, true, true, true, false, false, false, false, false, false] rfl rfl (any_of HT_.out (by kernel_rfl)) (fun _ _ _ h => h) (Or.inl ⟨by rfl, ?_⟩) ?_ ?_
          rotate_left
          · intro w'
            go_simp
            with_reducible rfl
          rotate_left
          · simp only [Act.put, List.setIfInBounds_toArray, List.set_cons_zero, List.set_cons_succ, i64_w, i32_w]
            rfl
          refine one_ (i := 8) (N := some 58) #[true, true, true, true, true, true, true, true, true, true, true, true, false, false, false, false, false, false] rfl rfl (one_of HT_.out (by kernel_rfl)) (by decide) (fun K hK => ?_)
          refine goes_ Tryd.func20 (by kernel_rfl) rfl #[.agg #[.int .i64 t493, .int .i64 (wrap64 (t494 + 1)), .int .i64 t495]] (by rfl) rfl rfl (by (try simp only [List.map_toArray, List.map_cons, List.map_nil]); first | done | rfl) ?_
          with_reducible refine (pitch_Right.calls t493 (wrap64 (t494 + 1)) t495 t510 _ ?side1 A39.out).mono ?_
          (case side1 => exact GW.step HG_.out (by repeat (first | (with_reducible first | exact HB.out | apply below_alloc | apply pw_below_drewN | apply below_drew1 | refine below_set ?_ GE491.out | refine below_set ?_ GE496.out | refine below_set ?_ GE497.out | refine below_set ?_ GE509.out) | exact HB.out)))
          rintro e w46 ⟨rfl, hb⟩
          refine ⟨_, rfl, ?_⟩
          have n0_ := Aside0.mk (blk_below (g := gb491) (o := .cells #[.int .i64 a0_0, .int .i64 a0_1, .int .i64 a0_2] 23 (0, 0)) (by (with_reducible repeat (first | refine blk_drewN ?_ _ | refine blk_drew ?_ | refine blk_alloc ?_ _)); exact BK491.out) hb)
          have n1_ := Aside0.mk (blk_below (g := gb496) (o := .cells #[.int .i64 t493, .int .i64 t494, .int .i64 t495] 23 (0, 0)) (by (with_reducible repeat (first | refine blk_drewN ?_ _ | refine blk_drew ?_ | refine blk_alloc ?_ _)); exact BK496.out) hb)
          have n2_ := Aside0.mk (blk_below (g := gb497) (o := .cells #[.int .i64 t493, .int .i64 (wrap64 (t494 + 1)), .int .i64 t495] 23 (0, 0)) (by (with_reducible repeat (first | refine blk_drewN ?_ _ | refine blk_drew ?_ | refine blk_alloc ?_ _)); exact BK497.out) hb)
          have n3_ := Aside0.mk (blk_below (g := gb509) (o := .cells #[.int .i64 t506, .int .i64 t507] 25 (0, 0)) (by (with_reducible repeat (first | refine blk_drewN ?_ _ | refine blk_drew ?_ | refine blk_alloc ?_ _)); exact BK509.out) hb)
          have n4_ := Aside0.mk (below_step (by repeat (first | (with_reducible first | exact HB.out | apply below_alloc | apply pw_below_drewN | apply below_drew1 | refine below_set ?_ GE491.out | refine below_set ?_ GE496.out | refine below_set ?_ GE497.out | refine below_set ?_ GE509.out) | exact HB.out)) hb)
          clear BK491
          clear BK496
          clear BK497
          clear BK509
          clear HB
          have BK491 := n0_
          have BK496 := n1_
          have BK497 := n2_
          have BK509 := n3_
          have HB := n4_
          clear n0_ n1_ n2_ n3_ n4_
          (try clear hb)
          (try clear hb2)
          (try clear hk)
          (try clear hi)
          refine hK.out _ _ ⟨(blk_cell BK497.out 0).trans rfl, (blk_cell BK497.out 1).trans rfl, (blk_cell BK497.out 2).trans rfl, (blk_cell BK496.out 0).trans rfl, (blk_cell BK496.out 1).trans rfl, (blk_cell BK496.out 2).trans rfl⟩ (fun hHeld => ?_)
          clear hK K
          refine norm_ (a' := ?_) ?_ ?_
          rotate_left
          · show Act.put _ (some 58) _ = _
            simp only [Act.put, List.setIfInBounds_toArray, List.set_cons_zero, List.set_cons_succ, i64_w, i32_w]
            rfl
          refine pure_ (i := 12) (N := some 62) (v := ?_) (a' := ?_) #[true, true, true, true, true, true, true, true, true, true, true, true, true, false, false, false, false, false] rfl rfl (any_of HT_.out (by kernel_rfl)) (fun _ _ _ h => h) (Or.inl ⟨by rfl, ?_⟩) ?_ ?_
          rotate_left
          · intro w'
            go_simp
            with_reducible rfl
          rotate_left
          · simp only [Act.put, List.setIfInBounds_toArray, List.set_cons_zero, List.set_cons_succ, i64_w, i32_w]
            rfl
          refine pure_ (i := 13) (N := some 63) (v := undef) (a' := ?_) #[true, true, true, true, true, true, true, true, true, true, true, true, true, true, false, false, false, false] rfl rfl (any_of HT_.out (by kernel_rfl)) (fun _ _ _ h => h) (Or.inr ⟨by rfl, rfl⟩) ?_ ?_
          rotate_left
          · simp only [Act.put, List.setIfInBounds_toArray, List.set_cons_zero, List.set_cons_succ, i64_w, i32_w]
            rfl
          refine pure_ (i := 14) (N := some 64) (v := undef) (a' := ?_) #[true, true, true, true, true, true, true, true, true, true, true, true, true, true, true, false, false, false] rfl rfl (any_of HT_.out (by kernel_rfl)) (fun _ _ _ h => h) (Or.inr ⟨by rfl, rfl⟩) ?_ ?_
          rotate_left
          · simp only [Act.put, List.setIfInBounds_toArray, List.set_cons_zero, List.set_cons_succ, i64_w, i32_w]
            rfl
          refine pure_ (i := 15) (N := some 65) (v := ?_) (a' := ?_) #[true, true, true, true, true, true, true, true, true, true, true, true, true, true, true, true, false, false] rfl rfl (any_of HT_.out (by kernel_rfl)) (fun _ _ _ h => h) (Or.inl ⟨by rfl, ?_⟩) ?_ ?_
          rotate_left
          · intro w'
            go_simp
            with_reducible rfl
          rotate_left
          · simp only [Act.put, List.setIfInBounds_toArray, List.set_cons_zero, List.set_cons_succ, i64_w, i32_w]
            rfl
          refine pure_ (i := 16) (N := some 66) (v := ?_) (a' := ?_) #[true, true, true, true, true, true, true, true, true, true, true, true, true, true, true, true, true, false] rfl rfl (any_of HT_.out (by kernel_rfl)) (fun _ _ _ h => h) (Or.inl ⟨by rfl, ?_⟩) ?_ ?_
          rotate_left
          · intro w'
            go_simp
            with_reducible rfl
          rotate_left
          · simp only [Act.put, List.setIfInBounds_toArray, List.set_cons_zero, List.set_cons_succ, i64_w, i32_w]
            rfl
          refine pure_ (i := 17) (N := some 67) (v := ?_) (a' := ?_) #[true, true, true, true, true, true, true, true, true, true, true, true, true, true, true, true, true, true] rfl rfl (any_of HT_.out (by kernel_rfl)) (fun _ _ _ h => h) (Or.inl ⟨by rfl, ?_⟩) ?_ ?_
          rotate_left
          · intro w'
            go_simp
            with_reducible rfl
          rotate_left
          · simp only [Act.put, List.setIfInBounds_toArray, List.set_cons_zero, List.set_cons_succ, i64_w, i32_w]
            rfl
          refine done_ (done_of HT_.out (by kernel_rfl)) ?_
          try go_wp2
          go_meet
          case rel => exact ⟨_, ((t510 != false)), (by first | rfl | (simp; done) | (simp [*]; done)), H', ⟨by first | omega | exact Nat.le_refl _⟩, ⟨by (with_reducible repeat (first | refine blk_drewN ?_ _ | refine blk_drew ?_ | refine blk_alloc ?_ _)); exact BK491.out⟩, ⟨by (with_reducible repeat (first | refine blk_drewN ?_ _ | refine blk_drew ?_ | refine blk_alloc ?_ _)); exact BK496.out⟩, ⟨by (with_reducible repeat (first | refine blk_drewN ?_ _ | refine blk_drew ?_ | refine blk_alloc ?_ _)); exact BK497.out⟩, ⟨by (with_reducible repeat (first | refine blk_drewN ?_ _ | refine blk_drew ?_ | refine blk_alloc ?_ _)); exact BK509.out⟩, ⟨by repeat (first | (with_reducible first | exact HB.out | apply below_alloc | apply pw_below_drewN | apply below_drew1 | refine below_set ?_ GE491.out | refine below_set ?_ GE496.out | refine below_set ?_ GE497.out | refine below_set ?_ GE509.out) | exact HB.out)⟩⟩
      · rw [if_neg c38] at H
        have c38b0 : (t503 == 0) = false := beq_eq_false_iff_ne.mpr c38
        have c38b1 : (t503 != 0) = true := bne_iff_ne.mpr c38
        have H' := Aside0.mk H
        clear H
        try go_wp2
        have n0_ : Aside0 (((w32.setCell ⟨gb509, 0, none⟩ (.int .i64 t506)).setCell ⟨gb509, 1, none⟩ (.int .i64 t507)).heap[gb491]? = some (.cells #[.int .i64 a0_0, .int .i64 a0_1, .int .i64 a0_2] 23 (0, 0))) := ⟨by (with_reducible repeat (first | refine blk_drewN ?_ _ | refine blk_drew ?_ | refine blk_alloc ?_ _)); refine blk_far ?_ NB491_509.out _; (with_reducible repeat (first | refine blk_drewN ?_ _ | refine blk_drew ?_ | refine blk_alloc ?_ _)); refine blk_far ?_ NB491_509.out _; (with_reducible repeat (first | refine blk_drewN ?_ _ | refine blk_drew ?_ | refine blk_alloc ?_ _)); exact BK491.out⟩
        have n1_ : Aside0 (((w32.setCell ⟨gb509, 0, none⟩ (.int .i64 t506)).setCell ⟨gb509, 1, none⟩ (.int .i64 t507)).heap[gb496]? = some (.cells #[.int .i64 t493, .int .i64 t494, .int .i64 t495] 23 (0, 0))) := ⟨by (with_reducible repeat (first | refine blk_drewN ?_ _ | refine blk_drew ?_ | refine blk_alloc ?_ _)); refine blk_far ?_ NB496_509.out _; (with_reducible repeat (first | refine blk_drewN ?_ _ | refine blk_drew ?_ | refine blk_alloc ?_ _)); refine blk_far ?_ NB496_509.out _; (with_reducible repeat (first | refine blk_drewN ?_ _ | refine blk_drew ?_ | refine blk_alloc ?_ _)); exact BK496.out⟩
        have n2_ : Aside0 (((w32.setCell ⟨gb509, 0, none⟩ (.int .i64 t506)).setCell ⟨gb509, 1, none⟩ (.int .i64 t507)).heap[gb497]? = some (.cells #[.int .i64 t493, .int .i64 (wrap64 (t494 + 1)), .int .i64 t495] 23 (0, 0))) := ⟨by (with_reducible repeat (first | refine blk_drewN ?_ _ | refine blk_drew ?_ | refine blk_alloc ?_ _)); refine blk_far ?_ NB497_509.out _; (with_reducible repeat (first | refine blk_drewN ?_ _ | refine blk_drew ?_ | refine blk_alloc ?_ _)); refine blk_far ?_ NB497_509.out _; (with_reducible repeat (first | refine blk_drewN ?_ _ | refine blk_drew ?_ | refine blk_alloc ?_ _)); exact BK497.out⟩
        have n3_ : Aside0 (((w32.setCell ⟨gb509, 0, none⟩ (.int .i64 t506)).setCell ⟨gb509, 1, none⟩ (.int .i64 t507)).heap[gb509]? = some (.cells #[.int .i64 t506, .int .i64 t507] 25 (0, 0))) := ⟨by (with_reducible repeat (first | refine blk_drewN ?_ _ | refine blk_drew ?_ | refine blk_alloc ?_ _)); refine blk_put (cs := #[.int .i64 t506, .int .i64 0]) ?_ 1 _ rfl; (with_reducible repeat (first | refine blk_drewN ?_ _ | refine blk_drew ?_ | refine blk_alloc ?_ _)); refine blk_put (cs := #[.int .i64 0, .int .i64 0]) ?_ 0 _ rfl; (with_reducible repeat (first | refine blk_drewN ?_ _ | refine blk_drew ?_ | refine blk_alloc ?_ _)); exact BK509.out⟩
        have n4_ : Aside0 (Below w.heap.size w ((w32.setCell ⟨gb509, 0, none⟩ (.int .i64 t506)).setCell ⟨gb509, 1, none⟩ (.int .i64 t507))) := ⟨by repeat (first | (with_reducible first | exact HB.out | apply below_alloc | apply pw_below_drewN | apply below_drew1 | refine below_set ?_ GE491.out | refine below_set ?_ GE496.out | refine below_set ?_ GE497.out | refine below_set ?_ GE509.out) | exact HB.out)⟩
        (try clear BK491)
        (try clear BK496)
        (try clear BK497)
        (try clear BK509)
        (try clear HB)
        generalize ((w32.setCell ⟨gb509, 0, none⟩ (.int .i64 t506)).setCell ⟨gb509, 1, none⟩ (.int .i64 t507)) = w47 at n0_ n1_ n2_ n3_ n4_ ⊢
        have BK491 := n0_
        have BK496 := n1_
        have BK497 := n2_
        have BK509 := n3_
        have HB := n4_
        clear n0_ n1_ n2_ n3_ n4_
        have n0_ := Aside0.mk (blk_drew BK491.out)
        have n1_ := Aside0.mk (blk_drew BK496.out)
        have n2_ := Aside0.mk (blk_drew BK497.out)
        have n3_ := Aside0.mk (blk_drew BK509.out)
        have n4_ := Aside0.mk (below_drew1 HB.out)
        clear BK491
        clear BK496
        clear BK497
        clear BK509
        clear HB
        have BK491 := n0_
        have BK496 := n1_
        have BK497 := n2_
        have BK509 := n3_
        have HB := n4_
        clear n0_ n1_ n2_ n3_ n4_
        refine start_ (n := 18) (S := fun w' => True) (ds := []) #[false, false, false, false, false, false, false, false, false, false, false, false, false, false, false, false, false, false] (by kernel_rfl) rfl rfl trivial (fun hHeld => ?_); refine with_tabW partitalaw02_PitchSigns.tab10 partitalaw02_PitchSigns.bits10 (fun HT_ HW_ => ?_)
        generalize w47.drew = w48 at BK491 BK496 BK497 BK509 HB hHeld ⊢
        refine pure_ (i := 0) (N := some 50) (v := ?_) (a' := ?_) #[true, false, false, false, false, false, false, false, false, false, false, false, false, false, false, false, false, false] rfl rfl (any_of HT_.out (by kernel_rfl)) (fun _ _ _ h => h) (Or.inl ⟨by rfl, ?_⟩) ?_ ?_
        rotate_left
        · intro w'
          go_simp
          with_reducible rfl
        rotate_left
        · simp only [Act.put, List.setIfInBounds_toArray, List.set_cons_zero, List.set_cons_succ, i64_w, i32_w]
          rfl
        refine pure_ (i := 1) (N := some 51) (v := ?_) (a' := ?_) #[true, true, false, false, false, false, false, false, false, false, false, false, false, false, false, false, false, false] rfl rfl (any_of HT_.out (by kernel_rfl)) (fun _ _ _ h => h) (Or.inl ⟨by rfl, ?_⟩) ?_ ?_
        rotate_left
        · intro w'
          go_simp
          with_reducible rfl
        rotate_left
        · simp only [Act.put, List.setIfInBounds_toArray, List.set_cons_zero, List.set_cons_succ, i64_w, i32_w]
          rfl
        refine pure_ (i := 2) (N := some 52) (v := ?_) (a' := ?_) #[true, true, true, false, false, false, false, false, false, false, false, false, false, false, false, false, false, false] rfl rfl (any_of HT_.out (by kernel_rfl)) (fun _ _ _ h => h) (Or.inl ⟨by rfl, ?_⟩) ?_ ?_
        rotate_left
        · intro w'
          go_simp
          with_reducible rfl
        rotate_left
        · simp only [Act.put, List.setIfInBounds_toArray, List.set_cons_zero, List.set_cons_succ, i64_w, i32_w]
          rfl
        refine pure_ (i := 3) (N := some 53) (v := ?_) (a' := ?_) #[true, true, true, true, false, false, false, false, false, false, false, false, false, false, false, false, false, false] rfl rfl (any_of HT_.out (by kernel_rfl)) (fun _ _ _ h => h) (Or.inl ⟨by rfl, ?_⟩) ?_ ?_
        rotate_left
        · intro w'
          go_simp
          with_reducible rfl
        rotate_left
        · simp only [Act.put, List.setIfInBounds_toArray, List.set_cons_zero, List.set_cons_succ, i64_w, i32_w]
          rfl
        refine pure_ (i := 4) (N := some 54) (v := ?_) (a' := ?_) #[true, true, true, true, true, false, false, false, false, false, false, false, false, false, false, false, false, false] rfl rfl (any_of HT_.out (by kernel_rfl)) (fun _ _ _ h => h) (Or.inl ⟨by rfl, ?_⟩) ?_ ?_
        rotate_left
        · intro w'
          go_simp
          with_reducible rfl
        rotate_left
        · simp only [Act.put, List.setIfInBounds_toArray, List.set_cons_zero, List.set_cons_succ, i64_w, i32_w]
          rfl
        refine pure_ (i := 5) (N := some 55) (v := ?_) (a' := ?_) #[true, true, true, true, true, true, false, false, false, false, false, false, false, false, false, false, false, false] rfl rfl (any_of HT_.out (by kernel_rfl)) (fun _ _ _ h => h) (Or.inl ⟨by rfl, ?_⟩) ?_ ?_
        rotate_left
        · intro w'
          go_simp
          with_reducible rfl
        rotate_left
        · simp only [Act.put, List.setIfInBounds_toArray, List.set_cons_zero, List.set_cons_succ, i64_w, i32_w]
          rfl
        refine pure_ (i := 6) (N := some 56) (v := ?_) (a' := ?_) #[true, true, true, true, true, true, true, false, false, false, false, false, false, false, false, false, false, false] rfl rfl (any_of HT_.out (by kernel_rfl)) (fun _ _ _ h => h) (Or.inl ⟨by rfl, ?_⟩) ?_ ?_
        rotate_left
        · intro w'
          go_simp
          with_reducible rfl
        rotate_left
        · simp only [Act.put, List.setIfInBounds_toArray, List.set_cons_zero, List.set_cons_succ, i64_w, i32_w]
          rfl
        refine pure_ (i := 7) (N := some 57) (v := undef) (a' := ?_) #[true, true, true, true, true, true, true, true, false, false, false, false, false, false, false, false, false, false] rfl rfl (any_of HT_.out (by kernel_rfl)) (fun _ _ _ h => h) (Or.inr ⟨by rfl, rfl⟩) ?_ ?_
        rotate_left
        · simp only [Act.put, List.setIfInBounds_toArray, List.set_cons_zero, List.set_cons_succ, i64_w, i32_w]
          rfl
        refine pure_ (i := 8) (N := some 58) (v := undef) (a' := ?_) #[true, true, true, true, true, true, true, true, true, false, false, false, false, false, false, false, false, false] rfl rfl (any_of HT_.out (by kernel_rfl)) (fun _ _ _ h => h) (Or.inr ⟨by rfl, rfl⟩) ?_ ?_
        rotate_left
        · simp only [Act.put, List.setIfInBounds_toArray, List.set_cons_zero, List.set_cons_succ, i64_w, i32_w]
          rfl
        refine pure_ (i := 9) (N := some 59) (v := undef) (a' := ?_) #[true, true, true, true, true, true, true, true, true, true, false, false, false, false, false, false, false, false] rfl rfl (any_of HT_.out (by kernel_rfl)) (fun _ _ _ h => h) (Or.inr ⟨by rfl, rfl⟩) ?_ ?_
        rotate_left
        · simp only [Act.put, List.setIfInBounds_toArray, List.set_cons_zero, List.set_cons_succ, i64_w, i32_w]
          rfl
        refine pure_ (i := 10) (N := some 60) (v := undef) (a' := ?_) #[true, true, true, true, true, true, true, true, true, true, true, false, false, false, false, false, false, false] rfl rfl (any_of HT_.out (by kernel_rfl)) (fun _ _ _ h => h) (Or.inr ⟨by rfl, rfl⟩) ?_ ?_
        rotate_left
        · simp only [Act.put, List.setIfInBounds_toArray, List.set_cons_zero, List.set_cons_succ, i64_w, i32_w]
          rfl
        refine pure_ (i := 11) (N := some 61) (v := undef) (a' := ?_) #[true, true, true, true, true, true, true, true, true, true, true, true, false, false, false, false, false, false] rfl rfl (any_of HT_.out (by kernel_rfl)) (fun _ _ _ h => h) (Or.inr ⟨by rfl, rfl⟩) ?_ ?_
        rotate_left
        · simp only [Act.put, List.setIfInBounds_toArray, List.set_cons_zero, List.set_cons_succ, i64_w, i32_w]
          rfl
        refine pure_ (i := 12) (N := some 62) (v := undef) (a' := ?_) #[true, true, true, true, true, true, true, true, true, true, true, true, true, false, false, false, false, false] rfl rfl (any_of HT_.out (by kernel_rfl)) (fun _ _ _ h => h) (Or.inr ⟨by rfl, rfl⟩) ?_ ?_
        rotate_left
        · simp only [Act.put, List.setIfInBounds_toArray, List.set_cons_zero, List.set_cons_succ, i64_w, i32_w]
          rfl
        refine pure_ (i := 13) (N := some 63) (v := undef) (a' := ?_) #[true, true, true, true, true, true, true, true, true, true, true, true, true, true, false, false, false, false] rfl rfl (any_of HT_.out (by kernel_rfl)) (fun _ _ _ h => h) (Or.inr ⟨by rfl, rfl⟩) ?_ ?_
        rotate_left
        · simp only [Act.put, List.setIfInBounds_toArray, List.set_cons_zero, List.set_cons_succ, i64_w, i32_w]
          rfl
        refine pure_ (i := 14) (N := some 64) (v := undef) (a' := ?_) #[true, true, true, true, true, true, true, true, true, true, true, true, true, true, true, false, false, false] rfl rfl (any_of HT_.out (by kernel_rfl)) (fun _ _ _ h => h) (Or.inr ⟨by rfl, rfl⟩) ?_ ?_
        rotate_left
        · simp only [Act.put, List.setIfInBounds_toArray, List.set_cons_zero, List.set_cons_succ, i64_w, i32_w]
          rfl
        refine pure_ (i := 15) (N := some 65) (v := undef) (a' := ?_) #[true, true, true, true, true, true, true, true, true, true, true, true, true, true, true, true, false, false] rfl rfl (any_of HT_.out (by kernel_rfl)) (fun _ _ _ h => h) (Or.inr ⟨by rfl, rfl⟩) ?_ ?_
        rotate_left
        · simp only [Act.put, List.setIfInBounds_toArray, List.set_cons_zero, List.set_cons_succ, i64_w, i32_w]
          rfl
        refine pure_ (i := 16) (N := some 66) (v := undef) (a' := ?_) #[true, true, true, true, true, true, true, true, true, true, true, true, true, true, true, true, true, false] rfl rfl (any_of HT_.out (by kernel_rfl)) (fun _ _ _ h => h) (Or.inr ⟨by rfl, rfl⟩) ?_ ?_
        rotate_left
        · simp only [Act.put, List.setIfInBounds_toArray, List.set_cons_zero, List.set_cons_succ, i64_w, i32_w]
          rfl
        refine pure_ (i := 17) (N := some 67) (v := ?_) (a' := ?_) #[true, true, true, true, true, true, true, true, true, true, true, true, true, true, true, true, true, true] rfl rfl (any_of HT_.out (by kernel_rfl)) (fun _ _ _ h => h) (Or.inl ⟨by rfl, ?_⟩) ?_ ?_
        rotate_left
        · intro w'
          go_simp
          with_reducible rfl
        rotate_left
        · simp only [Act.put, List.setIfInBounds_toArray, List.set_cons_zero, List.set_cons_succ, i64_w, i32_w]
          rfl
        refine done_ (done_of HT_.out (by kernel_rfl)) ?_
        try go_wp2
        go_meet
        case rel => exact ⟨_, (true), (by first | rfl | (simp; done) | (simp [*]; done)), H', ⟨by first | omega | exact Nat.le_refl _⟩, ⟨by (with_reducible repeat (first | refine blk_drewN ?_ _ | refine blk_drew ?_ | refine blk_alloc ?_ _)); exact BK491.out⟩, ⟨by (with_reducible repeat (first | refine blk_drewN ?_ _ | refine blk_drew ?_ | refine blk_alloc ?_ _)); exact BK496.out⟩, ⟨by (with_reducible repeat (first | refine blk_drewN ?_ _ | refine blk_drew ?_ | refine blk_alloc ?_ _)); exact BK497.out⟩, ⟨by (with_reducible repeat (first | refine blk_drewN ?_ _ | refine blk_drew ?_ | refine blk_alloc ?_ _)); exact BK509.out⟩, ⟨by repeat (first | (with_reducible first | exact HB.out | apply below_alloc | apply pw_below_drewN | apply below_drew1 | refine below_set ?_ GE491.out | refine below_set ?_ GE496.out | refine below_set ?_ GE497.out | refine below_set ?_ GE509.out) | exact HB.out)⟩⟩
    · rw [if_neg c37] at H
      have c37b0 : (t499 == 0) = false := beq_eq_false_iff_ne.mpr c37
      have c37b1 : (t499 != 0) = true := bne_iff_ne.mpr c37
      (first | rw [c37b0] | (simp only [i64_w, i32_w]; rw [c37b0]) | skip)
      have H' := Aside0.mk H
      clear H
      try go_wp2
      have n0_ : Aside0 (((w32.setCell ⟨gb509, 0, none⟩ (.int .i64 t506)).setCell ⟨gb509, 1, none⟩ (.int .i64 t507)).heap[gb491]? = some (.cells #[.int .i64 a0_0, .int .i64 a0_1, .int .i64 a0_2] 23 (0, 0))) := ⟨by (with_reducible repeat (first | refine blk_drewN ?_ _ | refine blk_drew ?_ | refine blk_alloc ?_ _)); refine blk_far ?_ NB491_509.out _; (with_reducible repeat (first | refine blk_drewN ?_ _ | refine blk_drew ?_ | refine blk_alloc ?_ _)); refine blk_far ?_ NB491_509.out _; (with_reducible repeat (first | refine blk_drewN ?_ _ | refine blk_drew ?_ | refine blk_alloc ?_ _)); exact BK491.out⟩
      have n1_ : Aside0 (((w32.setCell ⟨gb509, 0, none⟩ (.int .i64 t506)).setCell ⟨gb509, 1, none⟩ (.int .i64 t507)).heap[gb496]? = some (.cells #[.int .i64 t493, .int .i64 t494, .int .i64 t495] 23 (0, 0))) := ⟨by (with_reducible repeat (first | refine blk_drewN ?_ _ | refine blk_drew ?_ | refine blk_alloc ?_ _)); refine blk_far ?_ NB496_509.out _; (with_reducible repeat (first | refine blk_drewN ?_ _ | refine blk_drew ?_ | refine blk_alloc ?_ _)); refine blk_far ?_ NB496_509.out _; (with_reducible repeat (first | refine blk_drewN ?_ _ | refine blk_drew ?_ | refine blk_alloc ?_ _)); exact BK496.out⟩
      have n2_ : Aside0 (((w32.setCell ⟨gb509, 0, none⟩ (.int .i64 t506)).setCell ⟨gb509, 1, none⟩ (.int .i64 t507)).heap[gb497]? = some (.cells #[.int .i64 t493, .int .i64 (wrap64 (t494 + 1)), .int .i64 t495] 23 (0, 0))) := ⟨by (with_reducible repeat (first | refine blk_drewN ?_ _ | refine blk_drew ?_ | refine blk_alloc ?_ _)); refine blk_far ?_ NB497_509.out _; (with_reducible repeat (first | refine blk_drewN ?_ _ | refine blk_drew ?_ | refine blk_alloc ?_ _)); refine blk_far ?_ NB497_509.out _; (with_reducible repeat (first | refine blk_drewN ?_ _ | refine blk_drew ?_ | refine blk_alloc ?_ _)); exact BK497.out⟩
      have n3_ : Aside0 (((w32.setCell ⟨gb509, 0, none⟩ (.int .i64 t506)).setCell ⟨gb509, 1, none⟩ (.int .i64 t507)).heap[gb509]? = some (.cells #[.int .i64 t506, .int .i64 t507] 25 (0, 0))) := ⟨by (with_reducible repeat (first | refine blk_drewN ?_ _ | refine blk_drew ?_ | refine blk_alloc ?_ _)); refine blk_put (cs := #[.int .i64 t506, .int .i64 0]) ?_ 1 _ rfl; (with_reducible repeat (first | refine blk_drewN ?_ _ | refine blk_drew ?_ | refine blk_alloc ?_ _)); refine blk_put (cs := #[.int .i64 0, .int .i64 0]) ?_ 0 _ rfl; (with_reducible repeat (first | refine blk_drewN ?_ _ | refine blk_drew ?_ | refine blk_alloc ?_ _)); exact BK509.out⟩
      have n4_ : Aside0 (Below w.heap.size w ((w32.setCell ⟨gb509, 0, none⟩ (.int .i64 t506)).setCell ⟨gb509, 1, none⟩ (.int .i64 t507))) := ⟨by repeat (first | (with_reducible first | exact HB.out | apply below_alloc | apply pw_below_drewN | apply below_drew1 | refine below_set ?_ GE491.out | refine below_set ?_ GE496.out | refine below_set ?_ GE497.out | refine below_set ?_ GE509.out) | exact HB.out)⟩
      (try clear BK491)
      (try clear BK496)
      (try clear BK497)
      (try clear BK509)
      (try clear HB)
      generalize ((w32.setCell ⟨gb509, 0, none⟩ (.int .i64 t506)).setCell ⟨gb509, 1, none⟩ (.int .i64 t507)) = w49 at n0_ n1_ n2_ n3_ n4_ ⊢
      have BK491 := n0_
      have BK496 := n1_
      have BK497 := n2_
      have BK509 := n3_
      have HB := n4_
      clear n0_ n1_ n2_ n3_ n4_
      have n0_ := Aside0.mk (blk_drew BK491.out)
      have n1_ := Aside0.mk (blk_drew BK496.out)
      have n2_ := Aside0.mk (blk_drew BK497.out)
      have n3_ := Aside0.mk (blk_drew BK509.out)
      have n4_ := Aside0.mk (below_drew1 HB.out)
      clear BK491
      clear BK496
      clear BK497
      clear BK509
      clear HB
      have BK491 := n0_
      have BK496 := n1_
      have BK497 := n2_
      have BK509 := n3_
      have HB := n4_
      clear n0_ n1_ n2_ n3_ n4_
      refine start_ (n := 18) (S := fun w' => True) (ds := []) #[false, false, false, false, false, false, false, false, false, false, false, false, false, false, false, false, false, false] (by kernel_rfl) rfl rfl trivial (fun hHeld => ?_); refine with_tabW partitalaw02_PitchSigns.tab10 partitalaw02_PitchSigns.bits10 (fun HT_ HW_ => ?_)
      generalize w49.drew = w50 at BK491 BK496 BK497 BK509 HB hHeld ⊢
      refine pure_ (i := 0) (N := some 50) (v := ?_) (a' := ?_) #[true, false, false, false, false, false, false, false, false, false, false, false, false, false, false, false, false, false] rfl rfl (any_of HT_.out (by kernel_rfl)) (fun _ _ _ h => h) (Or.inl ⟨by rfl, ?_⟩) ?_ ?_
      rotate_left
      · intro w'
        go_simp
        with_reducible rfl
      rotate_left
      · simp only [Act.put, List.setIfInBounds_toArray, List.set_cons_zero, List.set_cons_succ, i64_w, i32_w]
        rfl
      refine pure_ (i := 1) (N := some 51) (v := ?_) (a' := ?_) #[true, true, false, false, false, false, false, false, false, false, false, false, false, false, false, false, false, false] rfl rfl (any_of HT_.out (by kernel_rfl)) (fun _ _ _ h => h) (Or.inl ⟨by rfl, ?_⟩) ?_ ?_
      rotate_left
      · intro w'
        go_simp
        with_reducible rfl
      rotate_left
      · simp only [Act.put, List.setIfInBounds_toArray, List.set_cons_zero, List.set_cons_succ, i64_w, i32_w]
        rfl
      refine pure_ (i := 2) (N := some 52) (v := ?_) (a' := ?_) #[true, true, true, false, false, false, false, false, false, false, false, false, false, false, false, false, false, false] rfl rfl (any_of HT_.out (by kernel_rfl)) (fun _ _ _ h => h) (Or.inl ⟨by rfl, ?_⟩) ?_ ?_
      rotate_left
      · intro w'
        go_simp
        with_reducible rfl
      rotate_left
      · simp only [Act.put, List.setIfInBounds_toArray, List.set_cons_zero, List.set_cons_succ, i64_w, i32_w]
        rfl
      refine pure_ (i := 3) (N := some 53) (v := undef) (a' := ?_) #[true, true, true, true, false, false, false, false, false, false, false, false, false, false, false, false, false, false] rfl rfl (any_of HT_.out (by kernel_rfl)) (fun _ _ _ h => h) (Or.inr ⟨by rfl, rfl⟩) ?_ ?_
      rotate_left
      · simp only [Act.put, List.setIfInBounds_toArray, List.set_cons_zero, List.set_cons_succ, i64_w, i32_w]
        rfl
      refine pure_ (i := 4) (N := some 54) (v := undef) (a' := ?_) #[true, true, true, true, true, false, false, false, false, false, false, false, false, false, false, false, false, false] rfl rfl (any_of HT_.out (by kernel_rfl)) (fun _ _ _ h => h) (Or.inr ⟨by rfl, rfl⟩) ?_ ?_
      rotate_left
      · simp only [Act.put, List.setIfInBounds_toArray, List.set_cons_zero, List.set_cons_succ, i64_w, i32_w]
        rfl
      refine pure_ (i := 5) (N := some 55) (v := ?_) (a' := ?_) #[true, true, true, true, true, true, false, false, false, false, false, false, false, false, false, false, false, false] rfl rfl (any_of HT_.out (by kernel_rfl)) (fun _ _ _ h => h) (Or.inl ⟨by rfl, ?_⟩) ?_ ?_
      rotate_left
      · intro w'
        go_simp
        with_reducible rfl
      rotate_left
      · simp only [Act.put, List.setIfInBounds_toArray, List.set_cons_zero, List.set_cons_succ, i64_w, i32_w]
        rfl
      refine pure_ (i := 6) (N := some 56) (v := ?_) (a' := ?_) #[true, true, true, true, true, true, true, false, false, false, false, false, false, false, false, false, false, false] rfl rfl (any_of HT_.out (by kernel_rfl)) (fun _ _ _ h => h) (Or.inl ⟨by rfl, ?_⟩) ?_ ?_
      rotate_left
      · intro w'
        go_simp
        with_reducible rfl
      rotate_left
      · simp only [Act.put, List.setIfInBounds_toArray, List.set_cons_zero, List.set_cons_succ, i64_w, i32_w]
        rfl
      refine pure_ (i := 7) (N := some 57) (v := undef) (a' := ?_) #[true, true, true, true, true, true, true, true, false, false, false, false, false, false, false, false, false, false] rfl rfl (any_of HT_.out (by kernel_rfl)) (fun _ _ _ h => h) (Or.inr ⟨by rfl, rfl⟩) ?_ ?_
      rotate_left
      · simp only [Act.put, List.setIfInBounds_toArray, List.set_cons_zero, List.set_cons_succ, i64_w, i32_w]
        rfl
      refine pure_ (i := 8) (N := some 58) (v := undef) (a' := ?_) #[true, true, true, true, true, true, true, true, true, false, false, false, false, false, false, false, false, false] rfl rfl (any_of HT_.out (by kernel_rfl)) (fun _ _ _ h => h) (Or.inr ⟨by rfl, rfl⟩) ?_ ?_
      rotate_left
      · simp only [Act.put, List.setIfInBounds_toArray, List.set_cons_zero, List.set_cons_succ, i64_w, i32_w]
        rfl
      refine pure_ (i := 9) (N := some 59) (v := undef) (a' := ?_) #[true, true, true, true, true, true, true, true, true, true, false, false, false, false, false, false, false, false] rfl rfl (any_of HT_.out (by kernel_rfl)) (fun _ _ _ h => h) (Or.inr ⟨by rfl, rfl⟩) ?_ ?_
      rotate_left
      · simp only [Act.put, List.setIfInBounds_toArray, List.set_cons_zero, List.set_cons_succ, i64_w, i32_w]
        rfl
      refine pure_ (i := 10) (N := some 60) (v := undef) (a' := ?_) #[true, true, true, true, true, true, true, true, true, true, true, false, false, false, false, false, false, false] rfl rfl (any_of HT_.out (by kernel_rfl)) (fun _ _ _ h => h) (Or.inr ⟨by rfl, rfl⟩) ?_ ?_
      rotate_left
      · simp only [Act.put, List.setIfInBounds_toArray, List.set_cons_zero, List.set_cons_succ, i64_w, i32_w]
        rfl
      refine pure_ (i := 11) (N := some 61) (v := undef) (a' := ?_) #[true, true, true, true, true, true, true, true, true, true, true, true, false, false, false, false, false, false] rfl rfl (any_of HT_.out (by kernel_rfl)) (fun _ _ _ h => h) (Or.inr ⟨by rfl, rfl⟩) ?_ ?_
      rotate_left
      · simp only [Act.put, List.setIfInBounds_toArray, List.set_cons_zero, List.set_cons_succ, i64_w, i32_w]
        rfl
      refine pure_ (i := 12) (N := some 62) (v := undef) (a' := ?_) #[true, true, true, true, true, true, true, true, true, true, true, true, true, false, false, false, false, false] rfl rfl (any_of HT_.out (by kernel_rfl)) (fun _ _ _ h => h) (Or.inr ⟨by rfl, rfl⟩) ?_ ?_
      rotate_left
      · simp only [Act.put, List.setIfInBounds_toArray, List.set_cons_zero, List.set_cons_succ, i64_w, i32_w]
        rfl
      refine pure_ (i := 13) (N := some 63) (v := undef) (a' := ?_) #[true, true, true, true, true, true, true, true, true, true, true, true, true, true, false, false, false, false] rfl rfl (any_of HT_.out (by kernel_rfl)) (fun _ _ _ h => h) (Or.inr ⟨by rfl, rfl⟩) ?_ ?_
      rotate_left
      · simp only [Act.put, List.setIfInBounds_toArray, List.set_cons_zero, List.set_cons_succ, i64_w, i32_w]
        rfl
      refine pure_ (i := 14) (N := some 64) (v := undef) (a' := ?_) #[true, true, true, true, true, true, true, true, true, true, true, true, true, true, true, false, false, false] rfl rfl (any_of HT_.out (by kernel_rfl)) (fun _ _ _ h => h) (Or.inr ⟨by rfl, rfl⟩) ?_ ?_
      rotate_left
      · simp only [Act.put, List.setIfInBounds_toArray, List.set_cons_zero, List.set_cons_succ, i64_w, i32_w]
        rfl
      refine pure_ (i := 15) (N := some 65) (v := undef) (a' := ?_) #[true, true, true, true, true, true, true, true, true, true, true, true, true, true, true, true, false, false] rfl rfl (any_of HT_.out (by kernel_rfl)) (fun _ _ _ h => h) (Or.inr ⟨by rfl, rfl⟩) ?_ ?_
      rotate_left
      · simp only [Act.put, List.setIfInBounds_toArray, List.set_cons_zero, List.set_cons_succ, i64_w, i32_w]
        rfl
      refine pure_ (i := 16) (N := some 66) (v := undef) (a' := ?_) #[true, true, true, true, true, true, true, true, true, true, true, true, true, true, true, true, true, false] rfl rfl (any_of HT_.out (by kernel_rfl)) (fun _ _ _ h => h) (Or.inr ⟨by rfl, rfl⟩) ?_ ?_
      rotate_left
      · simp only [Act.put, List.setIfInBounds_toArray, List.set_cons_zero, List.set_cons_succ, i64_w, i32_w]
        rfl
      refine pure_ (i := 17) (N := some 67) (v := ?_) (a' := ?_) #[true, true, true, true, true, true, true, true, true, true, true, true, true, true, true, true, true, true] rfl rfl (any_of HT_.out (by kernel_rfl)) (fun _ _ _ h => h) (Or.inl ⟨by rfl, ?_⟩) ?_ ?_
      rotate_left
      · intro w'
        go_simp
        with_reducible rfl
      rotate_left
      · simp only [Act.put, List.setIfInBounds_toArray, List.set_cons_zero, List.set_cons_succ, i64_w, i32_w]
        rfl
      refine done_ (done_of HT_.out (by kernel_rfl)) ?_
      try go_wp2
      go_meet
      case rel => exact ⟨_, (true), (by first | rfl | (simp; done) | (simp [*]; done)), H', ⟨by first | omega | exact Nat.le_refl _⟩, ⟨by (with_reducible repeat (first | refine blk_drewN ?_ _ | refine blk_drew ?_ | refine blk_alloc ?_ _)); exact BK491.out⟩, ⟨by (with_reducible repeat (first | refine blk_drewN ?_ _ | refine blk_drew ?_ | refine blk_alloc ?_ _)); exact BK496.out⟩, ⟨by (with_reducible repeat (first | refine blk_drewN ?_ _ | refine blk_drew ?_ | refine blk_alloc ?_ _)); exact BK497.out⟩, ⟨by (with_reducible repeat (first | refine blk_drewN ?_ _ | refine blk_drew ?_ | refine blk_alloc ?_ _)); exact BK509.out⟩, ⟨by repeat (first | (with_reducible first | exact HB.out | apply below_alloc | apply pw_below_drewN | apply below_drew1 | refine below_set ?_ GE491.out | refine below_set ?_ GE496.out | refine below_set ?_ GE497.out | refine below_set ?_ GE509.out) | exact HB.out)⟩⟩
  case rest =>
    clear HC9
    try clear c2
    try clear p2
    try clear c3
    try clear c4
    try clear p6
    try clear c20
    try clear c37
    try clear c37b0
    try clear c37b1
    try clear c38
    try clear c38b0
    try clear c38b1
    try clear c40
    try clear c40b0
    obtain ⟨kq, x67_8, rfl, HA, HJ8, BK491, BK496, BK497, BK509, HB⟩ := hcut
    cases kq with
    | zero => exact absurd HA.out (by simp [partitalaw02_PitchSigns.j0])
    | succ kj8 =>
      have H := HA.out
      clear HA
      simp only [partitalaw02_PitchSigns.j0] at H
      by_cases c51 : x67_8 = true
      · subst c51
        have H1 : (some false) = some r := by rw [if_pos rfl] at H; exact H
        clear H
        have H := H1
        clear H1
        exact absurd H (by rw [HR_.out]; simp)
      · replace c51 := Bool.eq_false_iff.mpr c51
        subst c51
        have H1 : ((pitch_Right.f t493 (wrap64 (t494 + 1)) t495).bind fun t511 => (if t511 = true then (if t492 = true then (if t501 = 0 then (if t500 = (wrap64 (t498 + 1)) then (if t505 = 0 then (if t504 = t502 then (if t508 = 0 then (if (t506 == 0 && (t507 == 1)) = true then ((pitch_Compare.f kj8 t493 t494 t495 t493 (wrap64 (t494 + 1)) t495).bind fun t512 => (some (t512 == (-1)))) else (some false)) else (some false)) else (some false)) else (some false)) else (some false)) else (some false)) else (some false)) else (if t492 = true then (if t501 = 20 then (if t505 = 20 then (if t508 = 20 then ((pitch_Compare.f kj8 t493 t494 t495 t493 (wrap64 (t494 + 1)) t495).bind fun t513 => (some (t513 == 0))) else (some false)) else (some false)) else (some false)) else (some false)))) = some r := by rw [if_neg (show ¬ (false = true) by decide)] at H; exact H
        clear H
        have H := H1
        clear H1
        replace H := Option.bind_eq_some_iff.mp H
        obtain ⟨t511, A520, H⟩ := H
        replace H : (if t511 = true then (if t492 = true then (if t501 = 0 then (if t500 = (wrap64 (t498 + 1)) then (if t505 = 0 then (if t504 = t502 then (if t508 = 0 then (if (t506 == 0 && (t507 == 1)) = true then ((pitch_Compare.f kj8 t493 t494 t495 t493 (wrap64 (t494 + 1)) t495).bind fun t512 => (some (t512 == (-1)))) else (some false)) else (some false)) else (some false)) else (some false)) else (some false)) else (some false)) else (some false)) else (if t492 = true then (if t501 = 20 then (if t505 = 20 then (if t508 = 20 then ((pitch_Compare.f kj8 t493 t494 t495 t493 (wrap64 (t494 + 1)) t495).bind fun t513 => (some (t513 == 0))) else (some false)) else (some false)) else (some false)) else (some false))) = some r := H
        have A52 := Aside0.mk A520
        clear A520
        by_cases c53 : t511 = true
        · subst c53
          have H1 : (if t492 = true then (if t501 = 0 then (if t500 = (wrap64 (t498 + 1)) then (if t505 = 0 then (if t504 = t502 then (if t508 = 0 then (if (t506 == 0 && (t507 == 1)) = true then ((pitch_Compare.f kj8 t493 t494 t495 t493 (wrap64 (t494 + 1)) t495).bind fun t512 => (some (t512 == (-1)))) else (some false)) else (some false)) else (some false)) else (some false)) else (some false)) else (some false)) else (some false)) = some r := by rw [if_pos rfl] at H; exact H
          clear H
          have H := H1
          clear H1
          by_cases c54 : t492 = true
          · subst c54
            have H1 : (if t501 = 0 then (if t500 = (wrap64 (t498 + 1)) then (if t505 = 0 then (if t504 = t502 then (if t508 = 0 then (if (t506 == 0 && (t507 == 1)) = true then ((pitch_Compare.f kj8 t493 t494 t495 t493 (wrap64 (t494 + 1)) t495).bind fun t512 => (some (t512 == (-1)))) else (some false)) else (some false)) else (some false)) else (some false)) else (some false)) else (some false)) = some r := by rw [if_pos rfl] at H; exact H
            clear H
            have H := H1
            clear H1
            by_cases c55 : t501 = 0
            · rw [if_pos c55] at H
              have c55b0 : (t501 == 0) = true := beq_iff_eq.mpr c55
              have c55b1 : (t501 != 0) = false := bne_eq_false_iff_eq.mpr c55
              clear c55
              by_cases c56 : t500 = (wrap64 (t498 + 1))
              · rw [if_pos c56] at H
                have c56b0 : (t500 == (wrap64 (t498 + 1))) = true := beq_iff_eq.mpr c56
                have c56b1 : (t500 != (wrap64 (t498 + 1))) = false := bne_eq_false_iff_eq.mpr c56
                clear c56
                by_cases c57 : t505 = 0
                · rw [if_pos c57] at H
                  have c57b0 : (t505 == 0) = true := beq_iff_eq.mpr c57
                  have c57b1 : (t505 != 0) = false := bne_eq_false_iff_eq.mpr c57
                  clear c57
                  by_cases c58 : t504 = t502
                  · rw [if_pos c58] at H
                    have c58b0 : (t504 == t502) = true := beq_iff_eq.mpr c58
                    have c58b1 : (t504 != t502) = false := bne_eq_false_iff_eq.mpr c58
                    clear c58
                    by_cases c59 : t508 = 0
                    · rw [if_pos c59] at H
                      have c59b0 : (t508 == 0) = true := beq_iff_eq.mpr c59
                      have c59b1 : (t508 != 0) = false := bne_eq_false_iff_eq.mpr c59
                      clear c59
                      by_cases c60 : (t506 == 0 && (t507 == 1)) = true
                      · rw [if_pos c60] at H
                        have c60b0 : (t506 == 0 && (t507 == 1)) = true := c60
                        (try (have c60b1 : decide (t506 = 0 && (t507 == 1)) = true := by simpa using c60))
                        (try (have c60b2 : (t506 == 0 && (t507 == 1)) = true := by simpa using c60))
                        clear c60
                        replace H := Option.bind_eq_some_iff.mp H
                        obtain ⟨t512, A610, H⟩ := H
                        replace H : (some (t512 == (-1))) = some r := H
                        have A61 := Aside0.mk A610
                        clear A610
                        obtain rfl := Option.some.inj H
                        have hnb62 := NB497_491.out
                        have hnc62 := NB491_497.out
                        have hnb63 := NB497_496.out
                        have hnc63 := NB496_497.out
                        have hnb64 := NB497_509.out
                        have hnc64 := NB509_497.out
                        have hcz65_0 : wc.cell? ⟨gb497, 0, none⟩ = some (.int .i64 t493) := (blk_cell BK497.out 0).trans rfl
                        have hcz65_1 : wc.cell? ⟨gb497, 1, none⟩ = some (.int .i64 (wrap64 (t494 + 1))) := (blk_cell BK497.out 1).trans rfl
                        have hcz65_2 : wc.cell? ⟨gb497, 2, none⟩ = some (.int .i64 t495) := (blk_cell BK497.out 2).trans rfl
                        have hfz65_0 := blk_frozen BK497.out 0
                        have hfz65_1 := blk_frozen BK497.out 1
                        have hfz65_2 := blk_frozen BK497.out 2
                        go_wp2_with (first | ((with_reducible refine gate_callee (f := 20) rfl ?_); refine goesL_ (some 69) rfl rfl Tryd.func20 (by kernel_rfl) rfl #[.agg #[.int .i64 t493, .int .i64 (wrap64 (t494 + 1)), .int .i64 t495]] rfl (by (try simp only [List.map_toArray, List.map_cons, List.map_nil]); first | done | rfl) ?_; (with_reducible refine (pitch_Right.calls t493 (wrap64 (t494 + 1)) t495 true _ ?side1 A52.out).mono ?_); (case side1 => exact GW.step HG_.out (by repeat (first | (with_reducible first | exact HB.out | apply below_alloc | apply pw_below_drewN | apply below_drew1 | refine below_set ?_ GE491.out | refine below_set ?_ GE496.out | refine below_set ?_ GE497.out | refine below_set ?_ GE509.out) | exact HB.out))); rintro e w66 ⟨rfl, hb⟩; refine ⟨_, rfl, ?_⟩; have n0_ := Aside0.mk (blk_below (g := gb491) (o := .cells #[.int .i64 a0_0, .int .i64 a0_1, .int .i64 a0_2] 23 (0, 0)) (by (with_reducible repeat (first | refine blk_drewN ?_ _ | refine blk_drew ?_ | refine blk_alloc ?_ _)); exact BK491.out) hb); have n1_ := Aside0.mk (blk_below (g := gb496) (o := .cells #[.int .i64 t493, .int .i64 t494, .int .i64 t495] 23 (0, 0)) (by (with_reducible repeat (first | refine blk_drewN ?_ _ | refine blk_drew ?_ | refine blk_alloc ?_ _)); exact BK496.out) hb); have n2_ := Aside0.mk (blk_below (g := gb497) (o := .cells #[.int .i64 t493, .int .i64 (wrap64 (t494 + 1)), .int .i64 t495] 23 (0, 0)) (by (with_reducible repeat (first | refine blk_drewN ?_ _ | refine blk_drew ?_ | refine blk_alloc ?_ _)); exact BK497.out) hb); have n3_ := Aside0.mk (blk_below (g := gb509) (o := .cells #[.int .i64 t506, .int .i64 t507] 25 (0, 0)) (by (with_reducible repeat (first | refine blk_drewN ?_ _ | refine blk_drew ?_ | refine blk_alloc ?_ _)); exact BK509.out) hb); have n4_ := Aside0.mk (below_step (by repeat (first | (with_reducible first | exact HB.out | apply below_alloc | apply pw_below_drewN | apply below_drew1 | refine below_set ?_ GE491.out | refine below_set ?_ GE496.out | refine below_set ?_ GE497.out | refine below_set ?_ GE509.out) | exact HB.out)) hb); clear BK491; clear BK496; clear BK497; clear BK509; clear HB; have BK491 := n0_; have BK496 := n1_; have BK497 := n2_; have BK509 := n3_; have HB := n4_; clear n0_ n1_ n2_ n3_ n4_; (try clear hb); (try clear hb2); (try clear hk); (try clear hi); have hnb67 := NB509_491.out; have hnc67 := NB491_509.out; have hnb68 := NB509_496.out; have hnc68 := NB496_509.out; have hcz69_0 : w66.cell? ⟨gb509, 0, none⟩ = some (.int .i64 t506) := (blk_cell BK509.out 0).trans rfl; have hcz69_1 : w66.cell? ⟨gb509, 1, none⟩ = some (.int .i64 t507) := (blk_cell BK509.out 1).trans rfl; have hfz69_0 := blk_frozen BK509.out 0; have hfz69_1 := blk_frozen BK509.out 1; have hnb70 := NB496_491.out; have hnc70 := NB491_496.out; have hcz71_0 : w66.cell? ⟨gb496, 0, none⟩ = some (.int .i64 t493) := (blk_cell BK496.out 0).trans rfl; have hcz71_1 : w66.cell? ⟨gb496, 1, none⟩ = some (.int .i64 t494) := (blk_cell BK496.out 1).trans rfl; have hcz71_2 : w66.cell? ⟨gb496, 2, none⟩ = some (.int .i64 t495) := (blk_cell BK496.out 2).trans rfl; have hfz71_0 := blk_frozen BK496.out 0; have hfz71_1 := blk_frozen BK496.out 1; have hfz71_2 := blk_frozen BK496.out 2; have hcz72_0 : w66.cell? ⟨gb497, 0, none⟩ = some (.int .i64 t493) := (blk_cell BK497.out 0).trans rfl; have hcz72_1 : w66.cell? ⟨gb497, 1, none⟩ = some (.int .i64 (wrap64 (t494 + 1))) := (blk_cell BK497.out 1).trans rfl; have hcz72_2 : w66.cell? ⟨gb497, 2, none⟩ = some (.int .i64 t495) := (blk_cell BK497.out 2).trans rfl; have hfz72_0 := blk_frozen BK497.out 0; have hfz72_1 := blk_frozen BK497.out 1; have hfz72_2 := blk_frozen BK497.out 2) | (go_at_call 27; (with_reducible refine (pitch_Compare.calls kj8 t493 t494 t495 t493 (wrap64 (t494 + 1)) t495 t512 _ ?side1 A61.out).mono ?_); (case side1 => exact GW.step HG_.out (by repeat (first | (with_reducible first | exact HB.out | apply below_alloc | apply pw_below_drewN | apply below_drew1 | refine below_set ?_ GE491.out | refine below_set ?_ GE496.out | refine below_set ?_ GE497.out | refine below_set ?_ GE509.out) | exact HB.out))); rintro e w73 ⟨rfl, hb⟩; have n0_ := Aside0.mk (blk_below (g := gb491) (o := .cells #[.int .i64 a0_0, .int .i64 a0_1, .int .i64 a0_2] 23 (0, 0)) (by (with_reducible repeat (first | refine blk_drewN ?_ _ | refine blk_drew ?_ | refine blk_alloc ?_ _)); exact BK491.out) hb); have n1_ := Aside0.mk (blk_below (g := gb496) (o := .cells #[.int .i64 t493, .int .i64 t494, .int .i64 t495] 23 (0, 0)) (by (with_reducible repeat (first | refine blk_drewN ?_ _ | refine blk_drew ?_ | refine blk_alloc ?_ _)); exact BK496.out) hb); have n2_ := Aside0.mk (blk_below (g := gb497) (o := .cells #[.int .i64 t493, .int .i64 (wrap64 (t494 + 1)), .int .i64 t495] 23 (0, 0)) (by (with_reducible repeat (first | refine blk_drewN ?_ _ | refine blk_drew ?_ | refine blk_alloc ?_ _)); exact BK497.out) hb); have n3_ := Aside0.mk (blk_below (g := gb509) (o := .cells #[.int .i64 t506, .int .i64 t507] 25 (0, 0)) (by (with_reducible repeat (first | refine blk_drewN ?_ _ | refine blk_drew ?_ | refine blk_alloc ?_ _)); exact BK509.out) hb); have n4_ := Aside0.mk (below_step (by repeat (first | (with_reducible first | exact HB.out | apply below_alloc | apply pw_below_drewN | apply below_drew1 | refine below_set ?_ GE491.out | refine below_set ?_ GE496.out | refine below_set ?_ GE497.out | refine below_set ?_ GE509.out) | exact HB.out)) hb); clear BK491; clear BK496; clear BK497; clear BK509; clear HB; have BK491 := n0_; have BK496 := n1_; have BK497 := n2_; have BK509 := n3_; have HB := n4_; clear n0_ n1_ n2_ n3_ n4_; (try clear hb); (try clear hb2); (try clear hk); (try clear hi)))
                        go_ret
                        exact ⟨by first | rfl | (simp [errW_none, errW_some] <;> rfl) | (simp [*, errW_none, errW_some] <;> rfl), by repeat (first | (with_reducible first | exact HB.out | apply below_alloc | apply pw_below_drewN | apply below_drew1 | refine below_set ?_ GE491.out | refine below_set ?_ GE496.out | refine below_set ?_ GE497.out | refine below_set ?_ GE509.out) | exact HB.out)⟩
                      · rw [if_neg c60] at H
                        have c60b0 : (t506 == 0 && (t507 == 1)) = false := by simpa using c60
                        (try (have c60b1 : decide (t506 = 0 && (t507 == 1)) = false := by simpa using c60))
                        (try (have c60b2 : (t506 == 0 && (t507 == 1)) = false := by simpa using c60))
                        (try (have c60b3 : ¬ (t506 = 0 && (t507 == 1)) := by simpa using c60))
                        clear c60
                        exact absurd H (by rw [HR_.out]; simp)
                    · rw [if_neg c59] at H
                      have c59b0 : (t508 == 0) = false := beq_eq_false_iff_ne.mpr c59
                      have c59b1 : (t508 != 0) = true := bne_iff_ne.mpr c59
                      exact absurd H (by rw [HR_.out]; simp)
                  · rw [if_neg c58] at H
                    have c58b0 : (t504 == t502) = false := beq_eq_false_iff_ne.mpr c58
                    have c58b1 : (t504 != t502) = true := bne_iff_ne.mpr c58
                    exact absurd H (by rw [HR_.out]; simp)
                · rw [if_neg c57] at H
                  have c57b0 : (t505 == 0) = false := beq_eq_false_iff_ne.mpr c57
                  have c57b1 : (t505 != 0) = true := bne_iff_ne.mpr c57
                  exact absurd H (by rw [HR_.out]; simp)
              · rw [if_neg c56] at H
                have c56b0 : (t500 == (wrap64 (t498 + 1))) = false := beq_eq_false_iff_ne.mpr c56
                have c56b1 : (t500 != (wrap64 (t498 + 1))) = true := bne_iff_ne.mpr c56
                exact absurd H (by rw [HR_.out]; simp)
            · rw [if_neg c55] at H
              have c55b0 : (t501 == 0) = false := beq_eq_false_iff_ne.mpr c55
              have c55b1 : (t501 != 0) = true := bne_iff_ne.mpr c55
              exact absurd H (by rw [HR_.out]; simp)
          · replace c54 := Bool.eq_false_iff.mpr c54
            subst c54
            have H1 : (some false) = some r := by rw [if_neg (show ¬ (false = true) by decide)] at H; exact H
            clear H
            have H := H1
            clear H1
            exact absurd H (by rw [HR_.out]; simp)
        · replace c53 := Bool.eq_false_iff.mpr c53
          subst c53
          have H1 : (if t492 = true then (if t501 = 20 then (if t505 = 20 then (if t508 = 20 then ((pitch_Compare.f kj8 t493 t494 t495 t493 (wrap64 (t494 + 1)) t495).bind fun t513 => (some (t513 == 0))) else (some false)) else (some false)) else (some false)) else (some false)) = some r := by rw [if_neg (show ¬ (false = true) by decide)] at H; exact H
          clear H
          have H := H1
          clear H1
          by_cases c74 : t492 = true
          · subst c74
            have H1 : (if t501 = 20 then (if t505 = 20 then (if t508 = 20 then ((pitch_Compare.f kj8 t493 t494 t495 t493 (wrap64 (t494 + 1)) t495).bind fun t513 => (some (t513 == 0))) else (some false)) else (some false)) else (some false)) = some r := by rw [if_pos rfl] at H; exact H
            clear H
            have H := H1
            clear H1
            by_cases c75 : t501 = 20
            · rw [if_pos c75] at H
              have c75b0 : (t501 == 20) = true := beq_iff_eq.mpr c75
              have c75b1 : (t501 != 20) = false := bne_eq_false_iff_eq.mpr c75
              clear c75
              by_cases c76 : t505 = 20
              · rw [if_pos c76] at H
                have c76b0 : (t505 == 20) = true := beq_iff_eq.mpr c76
                have c76b1 : (t505 != 20) = false := bne_eq_false_iff_eq.mpr c76
                clear c76
                by_cases c77 : t508 = 20
                · rw [if_pos c77] at H
                  have c77b0 : (t508 == 20) = true := beq_iff_eq.mpr c77
                  have c77b1 : (t508 != 20) = false := bne_eq_false_iff_eq.mpr c77
                  clear c77
                  replace H := Option.bind_eq_some_iff.mp H
                  obtain ⟨t513, A780, H⟩ := H
                  replace H : (some (t513 == 0)) = some r := H
                  have A78 := Aside0.mk A780
                  clear A780
                  obtain rfl := Option.some.inj H
                  have hnb79 := NB497_491.out
                  have hnc79 := NB491_497.out
                  have hnb80 := NB497_496.out
                  have hnc80 := NB496_497.out
                  have hnb81 := NB497_509.out
                  have hnc81 := NB509_497.out
                  have hcz82_0 : wc.cell? ⟨gb497, 0, none⟩ = some (.int .i64 t493) := (blk_cell BK497.out 0).trans rfl
                  have hcz82_1 : wc.cell? ⟨gb497, 1, none⟩ = some (.int .i64 (wrap64 (t494 + 1))) := (blk_cell BK497.out 1).trans rfl
                  have hcz82_2 : wc.cell? ⟨gb497, 2, none⟩ = some (.int .i64 t495) := (blk_cell BK497.out 2).trans rfl
                  have hfz82_0 := blk_frozen BK497.out 0
                  have hfz82_1 := blk_frozen BK497.out 1
                  have hfz82_2 := blk_frozen BK497.out 2
                  go_wp2_with (first | ((with_reducible refine gate_callee (f := 20) rfl ?_); refine goesL_ (some 69) rfl rfl Tryd.func20 (by kernel_rfl) rfl #[.agg #[.int .i64 t493, .int .i64 (wrap64 (t494 + 1)), .int .i64 t495]] rfl (by (try simp only [List.map_toArray, List.map_cons, List.map_nil]); first | done | rfl) ?_; (with_reducible refine (pitch_Right.calls t493 (wrap64 (t494 + 1)) t495 false _ ?side1 A52.out).mono ?_); (case side1 => exact GW.step HG_.out (by repeat (first | (with_reducible first | exact HB.out | apply below_alloc | apply pw_below_drewN | apply below_drew1 | refine below_set ?_ GE491.out | refine below_set ?_ GE496.out | refine below_set ?_ GE497.out | refine below_set ?_ GE509.out) | exact HB.out))); rintro e w83 ⟨rfl, hb⟩; refine ⟨_, rfl, ?_⟩; have n0_ := Aside0.mk (blk_below (g := gb491) (o := .cells #[.int .i64 a0_0, .int .i64 a0_1, .int .i64 a0_2] 23 (0, 0)) (by (with_reducible repeat (first | refine blk_drewN ?_ _ | refine blk_drew ?_ | refine blk_alloc ?_ _)); exact BK491.out) hb); have n1_ := Aside0.mk (blk_below (g := gb496) (o := .cells #[.int .i64 t493, .int .i64 t494, .int .i64 t495] 23 (0, 0)) (by (with_reducible repeat (first | refine blk_drewN ?_ _ | refine blk_drew ?_ | refine blk_alloc ?_ _)); exact BK496.out) hb); have n2_ := Aside0.mk (blk_below (g := gb497) (o := .cells #[.int .i64 t493, .int .i64 (wrap64 (t494 + 1)), .int .i64 t495] 23 (0, 0)) (by (with_reducible repeat (first | refine blk_drewN ?_ _ | refine blk_drew ?_ | refine blk_alloc ?_ _)); exact BK497.out) hb); have n3_ := Aside0.mk (blk_below (g := gb509) (o := .cells #[.int .i64 t506, .int .i64 t507] 25 (0, 0)) (by (with_reducible repeat (first | refine blk_drewN ?_ _ | refine blk_drew ?_ | refine blk_alloc ?_ _)); exact BK509.out) hb); have n4_ := Aside0.mk (below_step (by repeat (first | (with_reducible first | exact HB.out | apply below_alloc | apply pw_below_drewN | apply below_drew1 | refine below_set ?_ GE491.out | refine below_set ?_ GE496.out | refine below_set ?_ GE497.out | refine below_set ?_ GE509.out) | exact HB.out)) hb); clear BK491; clear BK496; clear BK497; clear BK509; clear HB; have BK491 := n0_; have BK496 := n1_; have BK497 := n2_; have BK509 := n3_; have HB := n4_; clear n0_ n1_ n2_ n3_ n4_; (try clear hb); (try clear hb2); (try clear hk); (try clear hi); have hnb84 := NB496_491.out; have hnc84 := NB491_496.out; have hnb85 := NB496_509.out; have hnc85 := NB509_496.out; have hcz86_0 : w83.cell? ⟨gb496, 0, none⟩ = some (.int .i64 t493) := (blk_cell BK496.out 0).trans rfl; have hcz86_1 : w83.cell? ⟨gb496, 1, none⟩ = some (.int .i64 t494) := (blk_cell BK496.out 1).trans rfl; have hcz86_2 : w83.cell? ⟨gb496, 2, none⟩ = some (.int .i64 t495) := (blk_cell BK496.out 2).trans rfl; have hfz86_0 := blk_frozen BK496.out 0; have hfz86_1 := blk_frozen BK496.out 1; have hfz86_2 := blk_frozen BK496.out 2; have hcz87_0 : w83.cell? ⟨gb497, 0, none⟩ = some (.int .i64 t493) := (blk_cell BK497.out 0).trans rfl; have hcz87_1 : w83.cell? ⟨gb497, 1, none⟩ = some (.int .i64 (wrap64 (t494 + 1))) := (blk_cell BK497.out 1).trans rfl; have hcz87_2 : w83.cell? ⟨gb497, 2, none⟩ = some (.int .i64 t495) := (blk_cell BK497.out 2).trans rfl; have hfz87_0 := blk_frozen BK497.out 0; have hfz87_1 := blk_frozen BK497.out 1; have hfz87_2 := blk_frozen BK497.out 2) | (go_at_call 27; (with_reducible refine (pitch_Compare.calls kj8 t493 t494 t495 t493 (wrap64 (t494 + 1)) t495 t513 _ ?side1 A78.out).mono ?_); (case side1 => exact GW.step HG_.out (by repeat (first | (with_reducible first | exact HB.out | apply below_alloc | apply pw_below_drewN | apply below_drew1 | refine below_set ?_ GE491.out | refine below_set ?_ GE496.out | refine below_set ?_ GE497.out | refine below_set ?_ GE509.out) | exact HB.out))); rintro e w88 ⟨rfl, hb⟩; have n0_ := Aside0.mk (blk_below (g := gb491) (o := .cells #[.int .i64 a0_0, .int .i64 a0_1, .int .i64 a0_2] 23 (0, 0)) (by (with_reducible repeat (first | refine blk_drewN ?_ _ | refine blk_drew ?_ | refine blk_alloc ?_ _)); exact BK491.out) hb); have n1_ := Aside0.mk (blk_below (g := gb496) (o := .cells #[.int .i64 t493, .int .i64 t494, .int .i64 t495] 23 (0, 0)) (by (with_reducible repeat (first | refine blk_drewN ?_ _ | refine blk_drew ?_ | refine blk_alloc ?_ _)); exact BK496.out) hb); have n2_ := Aside0.mk (blk_below (g := gb497) (o := .cells #[.int .i64 t493, .int .i64 (wrap64 (t494 + 1)), .int .i64 t495] 23 (0, 0)) (by (with_reducible repeat (first | refine blk_drewN ?_ _ | refine blk_drew ?_ | refine blk_alloc ?_ _)); exact BK497.out) hb); have n3_ := Aside0.mk (blk_below (g := gb509) (o := .cells #[.int .i64 t506, .int .i64 t507] 25 (0, 0)) (by (with_reducible repeat (first | refine blk_drewN ?_ _ | refine blk_drew ?_ | refine blk_alloc ?_ _)); exact BK509.out) hb); have n4_ := Aside0.mk (below_step (by repeat (first | (with_reducible first | exact HB.out | apply below_alloc | apply pw_below_drewN | apply below_drew1 | refine below_set ?_ GE491.out | refine below_set ?_ GE496.out | refine below_set ?_ GE497.out | refine below_set ?_ GE509.out) | exact HB.out)) hb); clear BK491; clear BK496; clear BK497; clear BK509; clear HB; have BK491 := n0_; have BK496 := n1_; have BK497 := n2_; have BK509 := n3_; have HB := n4_; clear n0_ n1_ n2_ n3_ n4_; (try clear hb); (try clear hb2); (try clear hk); (try clear hi)))
                  go_ret
                  exact ⟨by first | rfl | (simp [errW_none, errW_some] <;> rfl) | (simp [*, errW_none, errW_some] <;> rfl), by repeat (first | (with_reducible first | exact HB.out | apply below_alloc | apply pw_below_drewN | apply below_drew1 | refine below_set ?_ GE491.out | refine below_set ?_ GE496.out | refine below_set ?_ GE497.out | refine below_set ?_ GE509.out) | exact HB.out)⟩
                · rw [if_neg c77] at H
                  have c77b0 : (t508 == 20) = false := beq_eq_false_iff_ne.mpr c77
                  have c77b1 : (t508 != 20) = true := bne_iff_ne.mpr c77
                  exact absurd H (by rw [HR_.out]; simp)
              · rw [if_neg c76] at H
                have c76b0 : (t505 == 20) = false := beq_eq_false_iff_ne.mpr c76
                have c76b1 : (t505 != 20) = true := bne_iff_ne.mpr c76
                exact absurd H (by rw [HR_.out]; simp)
            · rw [if_neg c75] at H
              have c75b0 : (t501 == 20) = false := beq_eq_false_iff_ne.mpr c75
              have c75b1 : (t501 != 20) = true := bne_iff_ne.mpr c75
              exact absurd H (by rw [HR_.out]; simp)
          · replace c74 := Bool.eq_false_iff.mpr c74
            subst c74
            have H1 : (some false) = some r := by rw [if_neg (show ¬ (false = true) by decide)] at H; exact H
            clear H
            have H := H1
            clear H1
            exact absurd H (by rw [HR_.out]; simp)

/-- THE ONE PURE STATEMENT of partitalaw02_PitchSigns: yours. -/
def partitalaw02_PitchSigns.Pure : Prop := ∀ (a0_0 : Int) (a0_1 : Int) (a0_2 : Int), (Lit.int .i64 a0_0).wf = true → (Lit.int .i64 a0_1).wf = true → (Lit.int .i64 a0_2).wf = true → ∃ k, partitalaw02_PitchSigns.f k a0_0 a0_1 a0_2 = some true
theorem partitalaw02_PitchSigns.walk (P : partitalaw02_PitchSigns.Pure) (a0_0 : Int) (a0_1 : Int) (a0_2 : Int) (w : World) (hG_ : GW w) (w0_0 : (Lit.int .i64 a0_0).wf = true) (w0_1 : (Lit.int .i64 a0_1).wf = true) (w0_2 : (Lit.int .i64 a0_2).wf = true) :
    Calls Tryd.prog 11 #[.agg #[.int .i64 a0_0, .int .i64 a0_1, .int .i64 a0_2]] w fun e w' => e = .returned (.bool true) ∧ Below w.heap.size w w' := by
  obtain ⟨k, h⟩ := P a0_0 a0_1 a0_2 w0_0 w0_1 w0_2
  refine (partitalaw02_PitchSigns.calls k a0_0 a0_1 a0_2 true w rfl hG_ h).mono ?_
  rintro e w' ⟨rfl, hd⟩
  exact ⟨rfl, hd⟩

end Go.Proofs.YtnpinngdiipogaaDoor.M
