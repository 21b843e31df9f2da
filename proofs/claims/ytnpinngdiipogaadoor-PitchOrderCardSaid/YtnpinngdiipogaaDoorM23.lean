-- Written by wip/mprint.py, this session's own program, over the translation. Lean checks it.
import Derived.Test.YtnpinngdiipogaaDoorM0
import Derived.Test.YtnpinngdiipogaaDoorM1
import Derived.Test.YtnpinngdiipogaaDoorM3
import Derived.Test.YtnpinngdiipogaaDoorM9
import Derived.Test.YtnpinngdiipogaaDoorM10
import Derived.Test.YtnpinngdiipogaaDoorM12
import Derived.Test.YtnpinngdiipogaaDoorGShort
namespace Go.Proofs.YtnpinngdiipogaaDoor.M
open Go.RowKit Go.Proofs.YtnpinngdiipogaaDoorW.PrintWords Go.Proofs.YtnpinngdiipogaaDoorW.PrintLast Go.Proofs.YtnpinngdiipogaaDoorW.PrintMore
attribute [local go_sem] max2_int min2_int max_two min_two max_three min_three max_four min_four   -- for this text's walks alone
set_option linter.unusedVariables false
set_option linter.unusedSimpArgs false

attribute [local go_sem high] eqA23
/-! ### partitalaw02_PitchOrder: function 8 -/
mutual
def partitalaw02_PitchOrder.j0 : Nat → Bool → Int → Int → Int → Int → Int → Bool → Int → Int → Int → Int → Int → Int → Option (Bool)
  | 0, _, _, _, _, _, _, _, _, _, _, _, _, _ => none
  | k + 1, x7, x11, x14, x15, x16, x17, x74, x423000, x423001, x423002, x427000, x427001, x427002 => if x74 = true then (some false) else (if x7 = true then (if x15 = 0 then (if x17 = 0 then ((pitch_Compare.f k x427000 x427001 x427002 x423000 x423001 x423002).bind fun t438 => (if t438 = (wrap64 (-x11)) then (if ((x11 == 0) == (x423000 == x427000 && (x423001 == x427001 && (x423002 == x427002)))) = true then (if x11 ≥ (-1) then (if x11 ≤ 1 then (if x14 = x16 then (partitalaw02_PitchOrder.j1 k true) else (partitalaw02_PitchOrder.j1 k ((decide (x14 < x16)) == (decide (x11 < 0))))) else (partitalaw02_PitchOrder.j1 k false)) else (partitalaw02_PitchOrder.j1 k false)) else (partitalaw02_PitchOrder.j1 k false)) else (partitalaw02_PitchOrder.j1 k false))) else (partitalaw02_PitchOrder.j1 k false)) else (partitalaw02_PitchOrder.j1 k false)) else (partitalaw02_PitchOrder.j1 k false))
def partitalaw02_PitchOrder.j1 : Nat → Bool → Option (Bool)
  | 0, _ => none
  | k + 1, x6 => some x6
end
def partitalaw02_PitchOrder.f (k : Nat) (a0_0 : Int) (a0_1 : Int) (a0_2 : Int) (a1_0 : Int) (a1_1 : Int) (a1_2 : Int) (a2_0 : Int) (a2_1 : Int) (a2_2 : Int) : Option (Bool) := (partitalaw02_awake.f k).bind fun t418 => ((partitalaw02_Pitch.f a0_0 a0_1 a0_2).bind fun bt419 => ((partitalaw02_Pitch.f a1_0 a1_1 a1_2).bind fun bt423 => ((partitalaw02_Pitch.f a2_0 a2_1 a2_2).bind fun bt427 => ((pitch_Compare.f k bt419.1 bt419.2.1 bt419.2.2 bt423.1 bt423.2.1 bt423.2.2).bind fun t431 => ((pitch_Compare.f k bt423.1 bt423.2.1 bt423.2.2 bt427.1 bt427.2.1 bt427.2.2).bind fun t432 => ((pitch_Compare.f k bt419.1 bt419.2.1 bt419.2.2 bt427.1 bt427.2.1 bt427.2.2).bind fun t433 => ((pitch_Number.f bt419.1 bt419.2.1 bt419.2.2).bind fun bt434 => ((pitch_Number.f bt423.1 bt423.2.1 bt423.2.2).bind fun bt436 => (if t431 < 0 then (if t432 < 0 then (if t433 ≥ 0 then (partitalaw02_PitchOrder.j0 k t418 t431 bt434.1 bt434.2 bt436.1 bt436.2 true bt419.1 bt419.2.1 bt419.2.2 bt423.1 bt423.2.1 bt423.2.2) else (if t431 > 0 then (if t432 > 0 then (if t433 ≤ 0 then (partitalaw02_PitchOrder.j0 k t418 t431 bt434.1 bt434.2 bt436.1 bt436.2 true bt419.1 bt419.2.1 bt419.2.2 bt423.1 bt423.2.1 bt423.2.2) else (if t431 = 0 then (partitalaw02_PitchOrder.j0 k t418 t431 bt434.1 bt434.2 bt436.1 bt436.2 (t433 != t432) bt419.1 bt419.2.1 bt419.2.2 bt423.1 bt423.2.1 bt423.2.2) else (partitalaw02_PitchOrder.j0 k t418 t431 bt434.1 bt434.2 bt436.1 bt436.2 false bt419.1 bt419.2.1 bt419.2.2 bt423.1 bt423.2.1 bt423.2.2))) else (if t431 = 0 then (partitalaw02_PitchOrder.j0 k t418 t431 bt434.1 bt434.2 bt436.1 bt436.2 (t433 != t432) bt419.1 bt419.2.1 bt419.2.2 bt423.1 bt423.2.1 bt423.2.2) else (partitalaw02_PitchOrder.j0 k t418 t431 bt434.1 bt434.2 bt436.1 bt436.2 false bt419.1 bt419.2.1 bt419.2.2 bt423.1 bt423.2.1 bt423.2.2))) else (if t431 = 0 then (partitalaw02_PitchOrder.j0 k t418 t431 bt434.1 bt434.2 bt436.1 bt436.2 (t433 != t432) bt419.1 bt419.2.1 bt419.2.2 bt423.1 bt423.2.1 bt423.2.2) else (partitalaw02_PitchOrder.j0 k t418 t431 bt434.1 bt434.2 bt436.1 bt436.2 false bt419.1 bt419.2.1 bt419.2.2 bt423.1 bt423.2.1 bt423.2.2)))) else (if t431 > 0 then (if t432 > 0 then (if t433 ≤ 0 then (partitalaw02_PitchOrder.j0 k t418 t431 bt434.1 bt434.2 bt436.1 bt436.2 true bt419.1 bt419.2.1 bt419.2.2 bt423.1 bt423.2.1 bt423.2.2) else (if t431 = 0 then (partitalaw02_PitchOrder.j0 k t418 t431 bt434.1 bt434.2 bt436.1 bt436.2 (t433 != t432) bt419.1 bt419.2.1 bt419.2.2 bt423.1 bt423.2.1 bt423.2.2) else (partitalaw02_PitchOrder.j0 k t418 t431 bt434.1 bt434.2 bt436.1 bt436.2 false bt419.1 bt419.2.1 bt419.2.2 bt423.1 bt423.2.1 bt423.2.2))) else (if t431 = 0 then (partitalaw02_PitchOrder.j0 k t418 t431 bt434.1 bt434.2 bt436.1 bt436.2 (t433 != t432) bt419.1 bt419.2.1 bt419.2.2 bt423.1 bt423.2.1 bt423.2.2) else (partitalaw02_PitchOrder.j0 k t418 t431 bt434.1 bt434.2 bt436.1 bt436.2 false bt419.1 bt419.2.1 bt419.2.2 bt423.1 bt423.2.1 bt423.2.2))) else (if t431 = 0 then (partitalaw02_PitchOrder.j0 k t418 t431 bt434.1 bt434.2 bt436.1 bt436.2 (t433 != t432) bt419.1 bt419.2.1 bt419.2.2 bt423.1 bt423.2.1 bt423.2.2) else (partitalaw02_PitchOrder.j0 k t418 t431 bt434.1 bt434.2 bt436.1 bt436.2 false bt419.1 bt419.2.1 bt419.2.2 bt423.1 bt423.2.1 bt423.2.2)))) else (if t431 > 0 then (if t432 > 0 then (if t433 ≤ 0 then (partitalaw02_PitchOrder.j0 k t418 t431 bt434.1 bt434.2 bt436.1 bt436.2 true bt419.1 bt419.2.1 bt419.2.2 bt423.1 bt423.2.1 bt423.2.2) else (if t431 = 0 then (partitalaw02_PitchOrder.j0 k t418 t431 bt434.1 bt434.2 bt436.1 bt436.2 (t433 != t432) bt419.1 bt419.2.1 bt419.2.2 bt423.1 bt423.2.1 bt423.2.2) else (partitalaw02_PitchOrder.j0 k t418 t431 bt434.1 bt434.2 bt436.1 bt436.2 false bt419.1 bt419.2.1 bt419.2.2 bt423.1 bt423.2.1 bt423.2.2))) else (if t431 = 0 then (partitalaw02_PitchOrder.j0 k t418 t431 bt434.1 bt434.2 bt436.1 bt436.2 (t433 != t432) bt419.1 bt419.2.1 bt419.2.2 bt423.1 bt423.2.1 bt423.2.2) else (partitalaw02_PitchOrder.j0 k t418 t431 bt434.1 bt434.2 bt436.1 bt436.2 false bt419.1 bt419.2.1 bt419.2.2 bt423.1 bt423.2.1 bt423.2.2))) else (if t431 = 0 then (partitalaw02_PitchOrder.j0 k t418 t431 bt434.1 bt434.2 bt436.1 bt436.2 (t433 != t432) bt419.1 bt419.2.1 bt419.2.2 bt423.1 bt423.2.1 bt423.2.2) else (partitalaw02_PitchOrder.j0 k t418 t431 bt434.1 bt434.2 bt436.1 bt436.2 false bt419.1 bt419.2.1 bt419.2.2 bt423.1 bt423.2.1 bt423.2.2))))))))))))
theorem partitalaw02_PitchOrder.mono_l : ∀ k, (∀ y0 y1 y2 y3 y4 y5 y6 y7 y8 y9 y10 y11 y12, LeO (partitalaw02_PitchOrder.j0 k y0 y1 y2 y3 y4 y5 y6 y7 y8 y9 y10 y11 y12) (partitalaw02_PitchOrder.j0 (k + 1) y0 y1 y2 y3 y4 y5 y6 y7 y8 y9 y10 y11 y12)) ∧ (∀ y0, LeO (partitalaw02_PitchOrder.j1 k y0) (partitalaw02_PitchOrder.j1 (k + 1) y0))
  | 0 => ⟨fun _ _ _ _ _ _ _ _ _ _ _ _ _ r h => by simp [partitalaw02_PitchOrder.j0] at h, fun _ r h => by simp [partitalaw02_PitchOrder.j1] at h⟩
  | k + 1 => by
    obtain ⟨ih0, ih1⟩ := partitalaw02_PitchOrder.mono_l k
    refine ⟨?_, ?_⟩
    · intro y0 y1 y2 y3 y4 y5 y6 y7 y8 y9 y10 y11 y12
      unfold partitalaw02_PitchOrder.j0
      repeat' first
      | (with_reducible exact ih0 _ _ _ _ _ _ _ _ _ _ _ _ _)
      | (with_reducible exact ih1 _)
      | (with_reducible exact partitalaw02_awake.mono _)
      | (with_reducible exact pitch_Compare.mono _ _ _ _ _ _ _)
      | (with_reducible exact LeO.refl _)
      | (with_reducible exact LeO.none _)
      | (with_reducible refine LeO.ite ?_ ?_)
      | (with_reducible refine LeO.bind ?_ (fun _ => ?_))
      | exact ih0 _ _ _ _ _ _ _ _ _ _ _ _ _
      | exact ih1 _
      | exact partitalaw02_awake.mono _
      | exact pitch_Compare.mono _ _ _ _ _ _ _
      | exact LeO.none _
      | refine LeO.ite ?_ ?_
      | refine LeO.bind ?_ (fun _ => ?_)
    · intro y0
      unfold partitalaw02_PitchOrder.j1
      repeat' first
      | (with_reducible exact ih0 _ _ _ _ _ _ _ _ _ _ _ _ _)
      | (with_reducible exact ih1 _)
      | (with_reducible exact partitalaw02_awake.mono _)
      | (with_reducible exact pitch_Compare.mono _ _ _ _ _ _ _)
      | (with_reducible exact LeO.refl _)
      | (with_reducible exact LeO.none _)
      | (with_reducible refine LeO.ite ?_ ?_)
      | (with_reducible refine LeO.bind ?_ (fun _ => ?_))
      | exact ih0 _ _ _ _ _ _ _ _ _ _ _ _ _
      | exact ih1 _
      | exact partitalaw02_awake.mono _
      | exact pitch_Compare.mono _ _ _ _ _ _ _
      | exact LeO.none _
      | refine LeO.ite ?_ ?_
      | refine LeO.bind ?_ (fun _ => ?_)
theorem partitalaw02_PitchOrder.mono : ∀ a0 a1 a2 a3 a4 a5 a6 a7 a8 k, LeO (partitalaw02_PitchOrder.f k a0 a1 a2 a3 a4 a5 a6 a7 a8) (partitalaw02_PitchOrder.f (k + 1) a0 a1 a2 a3 a4 a5 a6 a7 a8) := by
  intro a0 a1 a2 a3 a4 a5 a6 a7 a8 k
  obtain ⟨ih0, ih1⟩ := partitalaw02_PitchOrder.mono_l k
  unfold partitalaw02_PitchOrder.f
  repeat' first
      | (with_reducible exact ih0 _ _ _ _ _ _ _ _ _ _ _ _ _)
      | (with_reducible exact ih1 _)
      | (with_reducible exact partitalaw02_awake.mono _)
      | (with_reducible exact pitch_Compare.mono _ _ _ _ _ _ _)
      | (with_reducible exact LeO.refl _)
      | (with_reducible exact LeO.none _)
      | (with_reducible refine LeO.ite ?_ ?_)
      | (with_reducible refine LeO.bind ?_ (fun _ => ?_))
      | exact ih0 _ _ _ _ _ _ _ _ _ _ _ _ _
      | exact ih1 _
      | exact partitalaw02_awake.mono _
      | exact pitch_Compare.mono _ _ _ _ _ _ _
      | exact LeO.none _
      | refine LeO.ite ?_ ?_
      | refine LeO.bind ?_ (fun _ => ?_)
set_option maxHeartbeats 8000000 in
set_option maxRecDepth 100000 in
theorem partitalaw02_PitchOrder.calls (k : Nat) (a0_0 : Int) (a0_1 : Int) (a0_2 : Int) (a1_0 : Int) (a1_1 : Int) (a1_2 : Int) (a2_0 : Int) (a2_1 : Int) (a2_2 : Int) (r : Bool) (w : World) (hr_ : r = true) (hG_ : GW w) (h : partitalaw02_PitchOrder.f k a0_0 a0_1 a0_2 a1_0 a1_1 a1_2 a2_0 a2_1 a2_2 = some r) :
   Calls Tryd.prog 8 #[.agg #[.int .i64 a0_0, .int .i64 a0_1, .int .i64 a0_2], .agg #[.int .i64 a1_0, .int .i64 a1_1, .int .i64 a1_2], .agg #[.int .i64 a2_0, .int .i64 a2_1, .int .i64 a2_2]] w fun e w' => e = .returned (.bool r) ∧ Below w.heap.size w w' := by
  have hu23 := Tryd.underlying23
  have HB := A0 (Below.refl w.heap.size w)
  have HR_ := A0 hr_
  clear hr_
  have HG_ := A0 hG_
  clear hG_
  have H : ((partitalaw02_awake.f k).bind fun t418 => ((partitalaw02_Pitch.f a0_0 a0_1 a0_2).bind fun bt419 => ((partitalaw02_Pitch.f a1_0 a1_1 a1_2).bind fun bt423 => ((partitalaw02_Pitch.f a2_0 a2_1 a2_2).bind fun bt427 => ((pitch_Compare.f k bt419.1 bt419.2.1 bt419.2.2 bt423.1 bt423.2.1 bt423.2.2).bind fun t431 => ((pitch_Compare.f k bt423.1 bt423.2.1 bt423.2.2 bt427.1 bt427.2.1 bt427.2.2).bind fun t432 => ((pitch_Compare.f k bt419.1 bt419.2.1 bt419.2.2 bt427.1 bt427.2.1 bt427.2.2).bind fun t433 => ((pitch_Number.f bt419.1 bt419.2.1 bt419.2.2).bind fun bt434 => ((pitch_Number.f bt423.1 bt423.2.1 bt423.2.2).bind fun bt436 => (if t431 < 0 then (if t432 < 0 then (if t433 ≥ 0 then (partitalaw02_PitchOrder.j0 k t418 t431 bt434.1 bt434.2 bt436.1 bt436.2 true bt419.1 bt419.2.1 bt419.2.2 bt423.1 bt423.2.1 bt423.2.2) else (if t431 > 0 then (if t432 > 0 then (if t433 ≤ 0 then (partitalaw02_PitchOrder.j0 k t418 t431 bt434.1 bt434.2 bt436.1 bt436.2 true bt419.1 bt419.2.1 bt419.2.2 bt423.1 bt423.2.1 bt423.2.2) else (if t431 = 0 then (partitalaw02_PitchOrder.j0 k t418 t431 bt434.1 bt434.2 bt436.1 bt436.2 (t433 != t432) bt419.1 bt419.2.1 bt419.2.2 bt423.1 bt423.2.1 bt423.2.2) else (partitalaw02_PitchOrder.j0 k t418 t431 bt434.1 bt434.2 bt436.1 bt436.2 false bt419.1 bt419.2.1 bt419.2.2 bt423.1 bt423.2.1 bt423.2.2))) else (if t431 = 0 then (partitalaw02_PitchOrder.j0 k t418 t431 bt434.1 bt434.2 bt436.1 bt436.2 (t433 != t432) bt419.1 bt419.2.1 bt419.2.2 bt423.1 bt423.2.1 bt423.2.2) else (partitalaw02_PitchOrder.j0 k t418 t431 bt434.1 bt434.2 bt436.1 bt436.2 false bt419.1 bt419.2.1 bt419.2.2 bt423.1 bt423.2.1 bt423.2.2))) else (if t431 = 0 then (partitalaw02_PitchOrder.j0 k t418 t431 bt434.1 bt434.2 bt436.1 bt436.2 (t433 != t432) bt419.1 bt419.2.1 bt419.2.2 bt423.1 bt423.2.1 bt423.2.2) else (partitalaw02_PitchOrder.j0 k t418 t431 bt434.1 bt434.2 bt436.1 bt436.2 false bt419.1 bt419.2.1 bt419.2.2 bt423.1 bt423.2.1 bt423.2.2)))) else (if t431 > 0 then (if t432 > 0 then (if t433 ≤ 0 then (partitalaw02_PitchOrder.j0 k t418 t431 bt434.1 bt434.2 bt436.1 bt436.2 true bt419.1 bt419.2.1 bt419.2.2 bt423.1 bt423.2.1 bt423.2.2) else (if t431 = 0 then (partitalaw02_PitchOrder.j0 k t418 t431 bt434.1 bt434.2 bt436.1 bt436.2 (t433 != t432) bt419.1 bt419.2.1 bt419.2.2 bt423.1 bt423.2.1 bt423.2.2) else (partitalaw02_PitchOrder.j0 k t418 t431 bt434.1 bt434.2 bt436.1 bt436.2 false bt419.1 bt419.2.1 bt419.2.2 bt423.1 bt423.2.1 bt423.2.2))) else (if t431 = 0 then (partitalaw02_PitchOrder.j0 k t418 t431 bt434.1 bt434.2 bt436.1 bt436.2 (t433 != t432) bt419.1 bt419.2.1 bt419.2.2 bt423.1 bt423.2.1 bt423.2.2) else (partitalaw02_PitchOrder.j0 k t418 t431 bt434.1 bt434.2 bt436.1 bt436.2 false bt419.1 bt419.2.1 bt419.2.2 bt423.1 bt423.2.1 bt423.2.2))) else (if t431 = 0 then (partitalaw02_PitchOrder.j0 k t418 t431 bt434.1 bt434.2 bt436.1 bt436.2 (t433 != t432) bt419.1 bt419.2.1 bt419.2.2 bt423.1 bt423.2.1 bt423.2.2) else (partitalaw02_PitchOrder.j0 k t418 t431 bt434.1 bt434.2 bt436.1 bt436.2 false bt419.1 bt419.2.1 bt419.2.2 bt423.1 bt423.2.1 bt423.2.2)))) else (if t431 > 0 then (if t432 > 0 then (if t433 ≤ 0 then (partitalaw02_PitchOrder.j0 k t418 t431 bt434.1 bt434.2 bt436.1 bt436.2 true bt419.1 bt419.2.1 bt419.2.2 bt423.1 bt423.2.1 bt423.2.2) else (if t431 = 0 then (partitalaw02_PitchOrder.j0 k t418 t431 bt434.1 bt434.2 bt436.1 bt436.2 (t433 != t432) bt419.1 bt419.2.1 bt419.2.2 bt423.1 bt423.2.1 bt423.2.2) else (partitalaw02_PitchOrder.j0 k t418 t431 bt434.1 bt434.2 bt436.1 bt436.2 false bt419.1 bt419.2.1 bt419.2.2 bt423.1 bt423.2.1 bt423.2.2))) else (if t431 = 0 then (partitalaw02_PitchOrder.j0 k t418 t431 bt434.1 bt434.2 bt436.1 bt436.2 (t433 != t432) bt419.1 bt419.2.1 bt419.2.2 bt423.1 bt423.2.1 bt423.2.2) else (partitalaw02_PitchOrder.j0 k t418 t431 bt434.1 bt434.2 bt436.1 bt436.2 false bt419.1 bt419.2.1 bt419.2.2 bt423.1 bt423.2.1 bt423.2.2))) else (if t431 = 0 then (partitalaw02_PitchOrder.j0 k t418 t431 bt434.1 bt434.2 bt436.1 bt436.2 (t433 != t432) bt419.1 bt419.2.1 bt419.2.2 bt423.1 bt423.2.1 bt423.2.2) else (partitalaw02_PitchOrder.j0 k t418 t431 bt434.1 bt434.2 bt436.1 bt436.2 false bt419.1 bt419.2.1 bt419.2.2 bt423.1 bt423.2.1 bt423.2.2))))))))))))) = some r := h
  clear h
  replace H := Option.bind_eq_some_iff.mp H
  obtain ⟨t418, A40, H⟩ := H; replace H : ((partitalaw02_Pitch.f a0_0 a0_1 a0_2).bind fun bt419 => ((partitalaw02_Pitch.f a1_0 a1_1 a1_2).bind fun bt423 => ((partitalaw02_Pitch.f a2_0 a2_1 a2_2).bind fun bt427 => ((pitch_Compare.f k bt419.1 bt419.2.1 bt419.2.2 bt423.1 bt423.2.1 bt423.2.2).bind fun t431 => ((pitch_Compare.f k bt423.1 bt423.2.1 bt423.2.2 bt427.1 bt427.2.1 bt427.2.2).bind fun t432 => ((pitch_Compare.f k bt419.1 bt419.2.1 bt419.2.2 bt427.1 bt427.2.1 bt427.2.2).bind fun t433 => ((pitch_Number.f bt419.1 bt419.2.1 bt419.2.2).bind fun bt434 => ((pitch_Number.f bt423.1 bt423.2.1 bt423.2.2).bind fun bt436 => (if t431 < 0 then (if t432 < 0 then (if t433 ≥ 0 then (partitalaw02_PitchOrder.j0 k t418 t431 bt434.1 bt434.2 bt436.1 bt436.2 true bt419.1 bt419.2.1 bt419.2.2 bt423.1 bt423.2.1 bt423.2.2) else (if t431 > 0 then (if t432 > 0 then (if t433 ≤ 0 then (partitalaw02_PitchOrder.j0 k t418 t431 bt434.1 bt434.2 bt436.1 bt436.2 true bt419.1 bt419.2.1 bt419.2.2 bt423.1 bt423.2.1 bt423.2.2) else (if t431 = 0 then (partitalaw02_PitchOrder.j0 k t418 t431 bt434.1 bt434.2 bt436.1 bt436.2 (t433 != t432) bt419.1 bt419.2.1 bt419.2.2 bt423.1 bt423.2.1 bt423.2.2) else (partitalaw02_PitchOrder.j0 k t418 t431 bt434.1 bt434.2 bt436.1 bt436.2 false bt419.1 bt419.2.1 bt419.2.2 bt423.1 bt423.2.1 bt423.2.2))) else (if t431 = 0 then (partitalaw02_PitchOrder.j0 k t418 t431 bt434.1 bt434.2 bt436.1 bt436.2 (t433 != t432) bt419.1 bt419.2.1 bt419.2.2 bt423.1 bt423.2.1 bt423.2.2) else (partitalaw02_PitchOrder.j0 k t418 t431 bt434.1 bt434.2 bt436.1 bt436.2 false bt419.1 bt419.2.1 bt419.2.2 bt423.1 bt423.2.1 bt423.2.2))) else (if t431 = 0 then (partitalaw02_PitchOrder.j0 k t418 t431 bt434.1 bt434.2 bt436.1 bt436.2 (t433 != t432) bt419.1 bt419.2.1 bt419.2.2 bt423.1 bt423.2.1 bt423.2.2) else (partitalaw02_PitchOrder.j0 k t418 t431 bt434.1 bt434.2 bt436.1 bt436.2 false bt419.1 bt419.2.1 bt419.2.2 bt423.1 bt423.2.1 bt423.2.2)))) else (if t431 > 0 then (if t432 > 0 then (if t433 ≤ 0 then (partitalaw02_PitchOrder.j0 k t418 t431 bt434.1 bt434.2 bt436.1 bt436.2 true bt419.1 bt419.2.1 bt419.2.2 bt423.1 bt423.2.1 bt423.2.2) else (if t431 = 0 then (partitalaw02_PitchOrder.j0 k t418 t431 bt434.1 bt434.2 bt436.1 bt436.2 (t433 != t432) bt419.1 bt419.2.1 bt419.2.2 bt423.1 bt423.2.1 bt423.2.2) else (partitalaw02_PitchOrder.j0 k t418 t431 bt434.1 bt434.2 bt436.1 bt436.2 false bt419.1 bt419.2.1 bt419.2.2 bt423.1 bt423.2.1 bt423.2.2))) else (if t431 = 0 then (partitalaw02_PitchOrder.j0 k t418 t431 bt434.1 bt434.2 bt436.1 bt436.2 (t433 != t432) bt419.1 bt419.2.1 bt419.2.2 bt423.1 bt423.2.1 bt423.2.2) else (partitalaw02_PitchOrder.j0 k t418 t431 bt434.1 bt434.2 bt436.1 bt436.2 false bt419.1 bt419.2.1 bt419.2.2 bt423.1 bt423.2.1 bt423.2.2))) else (if t431 = 0 then (partitalaw02_PitchOrder.j0 k t418 t431 bt434.1 bt434.2 bt436.1 bt436.2 (t433 != t432) bt419.1 bt419.2.1 bt419.2.2 bt423.1 bt423.2.1 bt423.2.2) else (partitalaw02_PitchOrder.j0 k t418 t431 bt434.1 bt434.2 bt436.1 bt436.2 false bt419.1 bt419.2.1 bt419.2.2 bt423.1 bt423.2.1 bt423.2.2)))) else (if t431 > 0 then (if t432 > 0 then (if t433 ≤ 0 then (partitalaw02_PitchOrder.j0 k t418 t431 bt434.1 bt434.2 bt436.1 bt436.2 true bt419.1 bt419.2.1 bt419.2.2 bt423.1 bt423.2.1 bt423.2.2) else (if t431 = 0 then (partitalaw02_PitchOrder.j0 k t418 t431 bt434.1 bt434.2 bt436.1 bt436.2 (t433 != t432) bt419.1 bt419.2.1 bt419.2.2 bt423.1 bt423.2.1 bt423.2.2) else (partitalaw02_PitchOrder.j0 k t418 t431 bt434.1 bt434.2 bt436.1 bt436.2 false bt419.1 bt419.2.1 bt419.2.2 bt423.1 bt423.2.1 bt423.2.2))) else (if t431 = 0 then (partitalaw02_PitchOrder.j0 k t418 t431 bt434.1 bt434.2 bt436.1 bt436.2 (t433 != t432) bt419.1 bt419.2.1 bt419.2.2 bt423.1 bt423.2.1 bt423.2.2) else (partitalaw02_PitchOrder.j0 k t418 t431 bt434.1 bt434.2 bt436.1 bt436.2 false bt419.1 bt419.2.1 bt419.2.2 bt423.1 bt423.2.1 bt423.2.2))) else (if t431 = 0 then (partitalaw02_PitchOrder.j0 k t418 t431 bt434.1 bt434.2 bt436.1 bt436.2 (t433 != t432) bt419.1 bt419.2.1 bt419.2.2 bt423.1 bt423.2.1 bt423.2.2) else (partitalaw02_PitchOrder.j0 k t418 t431 bt434.1 bt434.2 bt436.1 bt436.2 false bt419.1 bt419.2.1 bt419.2.2 bt423.1 bt423.2.1 bt423.2.2)))))))))))) = some r := H; have A4 := A0 A40; clear A40
  replace H := Option.bind_eq_some_iff.mp H
  obtain ⟨⟨t419, t420, t421⟩, A50, H⟩ := H
  replace H : ((partitalaw02_Pitch.f a1_0 a1_1 a1_2).bind fun bt423 => ((partitalaw02_Pitch.f a2_0 a2_1 a2_2).bind fun bt427 => ((pitch_Compare.f k t419 t420 t421 bt423.1 bt423.2.1 bt423.2.2).bind fun t431 => ((pitch_Compare.f k bt423.1 bt423.2.1 bt423.2.2 bt427.1 bt427.2.1 bt427.2.2).bind fun t432 => ((pitch_Compare.f k t419 t420 t421 bt427.1 bt427.2.1 bt427.2.2).bind fun t433 => ((pitch_Number.f t419 t420 t421).bind fun bt434 => ((pitch_Number.f bt423.1 bt423.2.1 bt423.2.2).bind fun bt436 => (if t431 < 0 then (if t432 < 0 then (if t433 ≥ 0 then (partitalaw02_PitchOrder.j0 k t418 t431 bt434.1 bt434.2 bt436.1 bt436.2 true t419 t420 t421 bt423.1 bt423.2.1 bt423.2.2) else (if t431 > 0 then (if t432 > 0 then (if t433 ≤ 0 then (partitalaw02_PitchOrder.j0 k t418 t431 bt434.1 bt434.2 bt436.1 bt436.2 true t419 t420 t421 bt423.1 bt423.2.1 bt423.2.2) else (if t431 = 0 then (partitalaw02_PitchOrder.j0 k t418 t431 bt434.1 bt434.2 bt436.1 bt436.2 (t433 != t432) t419 t420 t421 bt423.1 bt423.2.1 bt423.2.2) else (partitalaw02_PitchOrder.j0 k t418 t431 bt434.1 bt434.2 bt436.1 bt436.2 false t419 t420 t421 bt423.1 bt423.2.1 bt423.2.2))) else (if t431 = 0 then (partitalaw02_PitchOrder.j0 k t418 t431 bt434.1 bt434.2 bt436.1 bt436.2 (t433 != t432) t419 t420 t421 bt423.1 bt423.2.1 bt423.2.2) else (partitalaw02_PitchOrder.j0 k t418 t431 bt434.1 bt434.2 bt436.1 bt436.2 false t419 t420 t421 bt423.1 bt423.2.1 bt423.2.2))) else (if t431 = 0 then (partitalaw02_PitchOrder.j0 k t418 t431 bt434.1 bt434.2 bt436.1 bt436.2 (t433 != t432) t419 t420 t421 bt423.1 bt423.2.1 bt423.2.2) else (partitalaw02_PitchOrder.j0 k t418 t431 bt434.1 bt434.2 bt436.1 bt436.2 false t419 t420 t421 bt423.1 bt423.2.1 bt423.2.2)))) else (if t431 > 0 then (if t432 > 0 then (if t433 ≤ 0 then (partitalaw02_PitchOrder.j0 k t418 t431 bt434.1 bt434.2 bt436.1 bt436.2 true t419 t420 t421 bt423.1 bt423.2.1 bt423.2.2) else (if t431 = 0 then (partitalaw02_PitchOrder.j0 k t418 t431 bt434.1 bt434.2 bt436.1 bt436.2 (t433 != t432) t419 t420 t421 bt423.1 bt423.2.1 bt423.2.2) else (partitalaw02_PitchOrder.j0 k t418 t431 bt434.1 bt434.2 bt436.1 bt436.2 false t419 t420 t421 bt423.1 bt423.2.1 bt423.2.2))) else (if t431 = 0 then (partitalaw02_PitchOrder.j0 k t418 t431 bt434.1 bt434.2 bt436.1 bt436.2 (t433 != t432) t419 t420 t421 bt423.1 bt423.2.1 bt423.2.2) else (partitalaw02_PitchOrder.j0 k t418 t431 bt434.1 bt434.2 bt436.1 bt436.2 false t419 t420 t421 bt423.1 bt423.2.1 bt423.2.2))) else (if t431 = 0 then (partitalaw02_PitchOrder.j0 k t418 t431 bt434.1 bt434.2 bt436.1 bt436.2 (t433 != t432) t419 t420 t421 bt423.1 bt423.2.1 bt423.2.2) else (partitalaw02_PitchOrder.j0 k t418 t431 bt434.1 bt434.2 bt436.1 bt436.2 false t419 t420 t421 bt423.1 bt423.2.1 bt423.2.2)))) else (if t431 > 0 then (if t432 > 0 then (if t433 ≤ 0 then (partitalaw02_PitchOrder.j0 k t418 t431 bt434.1 bt434.2 bt436.1 bt436.2 true t419 t420 t421 bt423.1 bt423.2.1 bt423.2.2) else (if t431 = 0 then (partitalaw02_PitchOrder.j0 k t418 t431 bt434.1 bt434.2 bt436.1 bt436.2 (t433 != t432) t419 t420 t421 bt423.1 bt423.2.1 bt423.2.2) else (partitalaw02_PitchOrder.j0 k t418 t431 bt434.1 bt434.2 bt436.1 bt436.2 false t419 t420 t421 bt423.1 bt423.2.1 bt423.2.2))) else (if t431 = 0 then (partitalaw02_PitchOrder.j0 k t418 t431 bt434.1 bt434.2 bt436.1 bt436.2 (t433 != t432) t419 t420 t421 bt423.1 bt423.2.1 bt423.2.2) else (partitalaw02_PitchOrder.j0 k t418 t431 bt434.1 bt434.2 bt436.1 bt436.2 false t419 t420 t421 bt423.1 bt423.2.1 bt423.2.2))) else (if t431 = 0 then (partitalaw02_PitchOrder.j0 k t418 t431 bt434.1 bt434.2 bt436.1 bt436.2 (t433 != t432) t419 t420 t421 bt423.1 bt423.2.1 bt423.2.2) else (partitalaw02_PitchOrder.j0 k t418 t431 bt434.1 bt434.2 bt436.1 bt436.2 false t419 t420 t421 bt423.1 bt423.2.1 bt423.2.2))))))))))) = some r := H; have A5 := A0 A50; clear A50
  replace H := Option.bind_eq_some_iff.mp H
  obtain ⟨⟨t423, t424, t425⟩, A60, H⟩ := H
  replace H : ((partitalaw02_Pitch.f a2_0 a2_1 a2_2).bind fun bt427 => ((pitch_Compare.f k t419 t420 t421 t423 t424 t425).bind fun t431 => ((pitch_Compare.f k t423 t424 t425 bt427.1 bt427.2.1 bt427.2.2).bind fun t432 => ((pitch_Compare.f k t419 t420 t421 bt427.1 bt427.2.1 bt427.2.2).bind fun t433 => ((pitch_Number.f t419 t420 t421).bind fun bt434 => ((pitch_Number.f t423 t424 t425).bind fun bt436 => (if t431 < 0 then (if t432 < 0 then (if t433 ≥ 0 then (partitalaw02_PitchOrder.j0 k t418 t431 bt434.1 bt434.2 bt436.1 bt436.2 true t419 t420 t421 t423 t424 t425) else (if t431 > 0 then (if t432 > 0 then (if t433 ≤ 0 then (partitalaw02_PitchOrder.j0 k t418 t431 bt434.1 bt434.2 bt436.1 bt436.2 true t419 t420 t421 t423 t424 t425) else (if t431 = 0 then (partitalaw02_PitchOrder.j0 k t418 t431 bt434.1 bt434.2 bt436.1 bt436.2 (t433 != t432) t419 t420 t421 t423 t424 t425) else (partitalaw02_PitchOrder.j0 k t418 t431 bt434.1 bt434.2 bt436.1 bt436.2 false t419 t420 t421 t423 t424 t425))) else (if t431 = 0 then (partitalaw02_PitchOrder.j0 k t418 t431 bt434.1 bt434.2 bt436.1 bt436.2 (t433 != t432) t419 t420 t421 t423 t424 t425) else (partitalaw02_PitchOrder.j0 k t418 t431 bt434.1 bt434.2 bt436.1 bt436.2 false t419 t420 t421 t423 t424 t425))) else (if t431 = 0 then (partitalaw02_PitchOrder.j0 k t418 t431 bt434.1 bt434.2 bt436.1 bt436.2 (t433 != t432) t419 t420 t421 t423 t424 t425) else (partitalaw02_PitchOrder.j0 k t418 t431 bt434.1 bt434.2 bt436.1 bt436.2 false t419 t420 t421 t423 t424 t425)))) else (if t431 > 0 then (if t432 > 0 then (if t433 ≤ 0 then (partitalaw02_PitchOrder.j0 k t418 t431 bt434.1 bt434.2 bt436.1 bt436.2 true t419 t420 t421 t423 t424 t425) else (if t431 = 0 then (partitalaw02_PitchOrder.j0 k t418 t431 bt434.1 bt434.2 bt436.1 bt436.2 (t433 != t432) t419 t420 t421 t423 t424 t425) else (partitalaw02_PitchOrder.j0 k t418 t431 bt434.1 bt434.2 bt436.1 bt436.2 false t419 t420 t421 t423 t424 t425))) else (if t431 = 0 then (partitalaw02_PitchOrder.j0 k t418 t431 bt434.1 bt434.2 bt436.1 bt436.2 (t433 != t432) t419 t420 t421 t423 t424 t425) else (partitalaw02_PitchOrder.j0 k t418 t431 bt434.1 bt434.2 bt436.1 bt436.2 false t419 t420 t421 t423 t424 t425))) else (if t431 = 0 then (partitalaw02_PitchOrder.j0 k t418 t431 bt434.1 bt434.2 bt436.1 bt436.2 (t433 != t432) t419 t420 t421 t423 t424 t425) else (partitalaw02_PitchOrder.j0 k t418 t431 bt434.1 bt434.2 bt436.1 bt436.2 false t419 t420 t421 t423 t424 t425)))) else (if t431 > 0 then (if t432 > 0 then (if t433 ≤ 0 then (partitalaw02_PitchOrder.j0 k t418 t431 bt434.1 bt434.2 bt436.1 bt436.2 true t419 t420 t421 t423 t424 t425) else (if t431 = 0 then (partitalaw02_PitchOrder.j0 k t418 t431 bt434.1 bt434.2 bt436.1 bt436.2 (t433 != t432) t419 t420 t421 t423 t424 t425) else (partitalaw02_PitchOrder.j0 k t418 t431 bt434.1 bt434.2 bt436.1 bt436.2 false t419 t420 t421 t423 t424 t425))) else (if t431 = 0 then (partitalaw02_PitchOrder.j0 k t418 t431 bt434.1 bt434.2 bt436.1 bt436.2 (t433 != t432) t419 t420 t421 t423 t424 t425) else (partitalaw02_PitchOrder.j0 k t418 t431 bt434.1 bt434.2 bt436.1 bt436.2 false t419 t420 t421 t423 t424 t425))) else (if t431 = 0 then (partitalaw02_PitchOrder.j0 k t418 t431 bt434.1 bt434.2 bt436.1 bt436.2 (t433 != t432) t419 t420 t421 t423 t424 t425) else (partitalaw02_PitchOrder.j0 k t418 t431 bt434.1 bt434.2 bt436.1 bt436.2 false t419 t420 t421 t423 t424 t425)))))))))) = some r := H; have A6 := A0 A60; clear A60
  replace H := Option.bind_eq_some_iff.mp H
  obtain ⟨⟨t427, t428, t429⟩, A70, H⟩ := H
  replace H : ((pitch_Compare.f k t419 t420 t421 t423 t424 t425).bind fun t431 => ((pitch_Compare.f k t423 t424 t425 t427 t428 t429).bind fun t432 => ((pitch_Compare.f k t419 t420 t421 t427 t428 t429).bind fun t433 => ((pitch_Number.f t419 t420 t421).bind fun bt434 => ((pitch_Number.f t423 t424 t425).bind fun bt436 => (if t431 < 0 then (if t432 < 0 then (if t433 ≥ 0 then (partitalaw02_PitchOrder.j0 k t418 t431 bt434.1 bt434.2 bt436.1 bt436.2 true t419 t420 t421 t423 t424 t425) else (if t431 > 0 then (if t432 > 0 then (if t433 ≤ 0 then (partitalaw02_PitchOrder.j0 k t418 t431 bt434.1 bt434.2 bt436.1 bt436.2 true t419 t420 t421 t423 t424 t425) else (if t431 = 0 then (partitalaw02_PitchOrder.j0 k t418 t431 bt434.1 bt434.2 bt436.1 bt436.2 (t433 != t432) t419 t420 t421 t423 t424 t425) else (partitalaw02_PitchOrder.j0 k t418 t431 bt434.1 bt434.2 bt436.1 bt436.2 false t419 t420 t421 t423 t424 t425))) else (if t431 = 0 then (partitalaw02_PitchOrder.j0 k t418 t431 bt434.1 bt434.2 bt436.1 bt436.2 (t433 != t432) t419 t420 t421 t423 t424 t425) else (partitalaw02_PitchOrder.j0 k t418 t431 bt434.1 bt434.2 bt436.1 bt436.2 false t419 t420 t421 t423 t424 t425))) else (if t431 = 0 then (partitalaw02_PitchOrder.j0 k t418 t431 bt434.1 bt434.2 bt436.1 bt436.2 (t433 != t432) t419 t420 t421 t423 t424 t425) else (partitalaw02_PitchOrder.j0 k t418 t431 bt434.1 bt434.2 bt436.1 bt436.2 false t419 t420 t421 t423 t424 t425)))) else (if t431 > 0 then (if t432 > 0 then (if t433 ≤ 0 then (partitalaw02_PitchOrder.j0 k t418 t431 bt434.1 bt434.2 bt436.1 bt436.2 true t419 t420 t421 t423 t424 t425) else (if t431 = 0 then (partitalaw02_PitchOrder.j0 k t418 t431 bt434.1 bt434.2 bt436.1 bt436.2 (t433 != t432) t419 t420 t421 t423 t424 t425) else (partitalaw02_PitchOrder.j0 k t418 t431 bt434.1 bt434.2 bt436.1 bt436.2 false t419 t420 t421 t423 t424 t425))) else (if t431 = 0 then (partitalaw02_PitchOrder.j0 k t418 t431 bt434.1 bt434.2 bt436.1 bt436.2 (t433 != t432) t419 t420 t421 t423 t424 t425) else (partitalaw02_PitchOrder.j0 k t418 t431 bt434.1 bt434.2 bt436.1 bt436.2 false t419 t420 t421 t423 t424 t425))) else (if t431 = 0 then (partitalaw02_PitchOrder.j0 k t418 t431 bt434.1 bt434.2 bt436.1 bt436.2 (t433 != t432) t419 t420 t421 t423 t424 t425) else (partitalaw02_PitchOrder.j0 k t418 t431 bt434.1 bt434.2 bt436.1 bt436.2 false t419 t420 t421 t423 t424 t425)))) else (if t431 > 0 then (if t432 > 0 then (if t433 ≤ 0 then (partitalaw02_PitchOrder.j0 k t418 t431 bt434.1 bt434.2 bt436.1 bt436.2 true t419 t420 t421 t423 t424 t425) else (if t431 = 0 then (partitalaw02_PitchOrder.j0 k t418 t431 bt434.1 bt434.2 bt436.1 bt436.2 (t433 != t432) t419 t420 t421 t423 t424 t425) else (partitalaw02_PitchOrder.j0 k t418 t431 bt434.1 bt434.2 bt436.1 bt436.2 false t419 t420 t421 t423 t424 t425))) else (if t431 = 0 then (partitalaw02_PitchOrder.j0 k t418 t431 bt434.1 bt434.2 bt436.1 bt436.2 (t433 != t432) t419 t420 t421 t423 t424 t425) else (partitalaw02_PitchOrder.j0 k t418 t431 bt434.1 bt434.2 bt436.1 bt436.2 false t419 t420 t421 t423 t424 t425))) else (if t431 = 0 then (partitalaw02_PitchOrder.j0 k t418 t431 bt434.1 bt434.2 bt436.1 bt436.2 (t433 != t432) t419 t420 t421 t423 t424 t425) else (partitalaw02_PitchOrder.j0 k t418 t431 bt434.1 bt434.2 bt436.1 bt436.2 false t419 t420 t421 t423 t424 t425))))))))) = some r := H; have A7 := A0 A70; clear A70
  replace H := Option.bind_eq_some_iff.mp H
  obtain ⟨t431, A80, H⟩ := H; replace H : ((pitch_Compare.f k t423 t424 t425 t427 t428 t429).bind fun t432 => ((pitch_Compare.f k t419 t420 t421 t427 t428 t429).bind fun t433 => ((pitch_Number.f t419 t420 t421).bind fun bt434 => ((pitch_Number.f t423 t424 t425).bind fun bt436 => (if t431 < 0 then (if t432 < 0 then (if t433 ≥ 0 then (partitalaw02_PitchOrder.j0 k t418 t431 bt434.1 bt434.2 bt436.1 bt436.2 true t419 t420 t421 t423 t424 t425) else (if t431 > 0 then (if t432 > 0 then (if t433 ≤ 0 then (partitalaw02_PitchOrder.j0 k t418 t431 bt434.1 bt434.2 bt436.1 bt436.2 true t419 t420 t421 t423 t424 t425) else (if t431 = 0 then (partitalaw02_PitchOrder.j0 k t418 t431 bt434.1 bt434.2 bt436.1 bt436.2 (t433 != t432) t419 t420 t421 t423 t424 t425) else (partitalaw02_PitchOrder.j0 k t418 t431 bt434.1 bt434.2 bt436.1 bt436.2 false t419 t420 t421 t423 t424 t425))) else (if t431 = 0 then (partitalaw02_PitchOrder.j0 k t418 t431 bt434.1 bt434.2 bt436.1 bt436.2 (t433 != t432) t419 t420 t421 t423 t424 t425) else (partitalaw02_PitchOrder.j0 k t418 t431 bt434.1 bt434.2 bt436.1 bt436.2 false t419 t420 t421 t423 t424 t425))) else (if t431 = 0 then (partitalaw02_PitchOrder.j0 k t418 t431 bt434.1 bt434.2 bt436.1 bt436.2 (t433 != t432) t419 t420 t421 t423 t424 t425) else (partitalaw02_PitchOrder.j0 k t418 t431 bt434.1 bt434.2 bt436.1 bt436.2 false t419 t420 t421 t423 t424 t425)))) else (if t431 > 0 then (if t432 > 0 then (if t433 ≤ 0 then (partitalaw02_PitchOrder.j0 k t418 t431 bt434.1 bt434.2 bt436.1 bt436.2 true t419 t420 t421 t423 t424 t425) else (if t431 = 0 then (partitalaw02_PitchOrder.j0 k t418 t431 bt434.1 bt434.2 bt436.1 bt436.2 (t433 != t432) t419 t420 t421 t423 t424 t425) else (partitalaw02_PitchOrder.j0 k t418 t431 bt434.1 bt434.2 bt436.1 bt436.2 false t419 t420 t421 t423 t424 t425))) else (if t431 = 0 then (partitalaw02_PitchOrder.j0 k t418 t431 bt434.1 bt434.2 bt436.1 bt436.2 (t433 != t432) t419 t420 t421 t423 t424 t425) else (partitalaw02_PitchOrder.j0 k t418 t431 bt434.1 bt434.2 bt436.1 bt436.2 false t419 t420 t421 t423 t424 t425))) else (if t431 = 0 then (partitalaw02_PitchOrder.j0 k t418 t431 bt434.1 bt434.2 bt436.1 bt436.2 (t433 != t432) t419 t420 t421 t423 t424 t425) else (partitalaw02_PitchOrder.j0 k t418 t431 bt434.1 bt434.2 bt436.1 bt436.2 false t419 t420 t421 t423 t424 t425)))) else (if t431 > 0 then (if t432 > 0 then (if t433 ≤ 0 then (partitalaw02_PitchOrder.j0 k t418 t431 bt434.1 bt434.2 bt436.1 bt436.2 true t419 t420 t421 t423 t424 t425) else (if t431 = 0 then (partitalaw02_PitchOrder.j0 k t418 t431 bt434.1 bt434.2 bt436.1 bt436.2 (t433 != t432) t419 t420 t421 t423 t424 t425) else (partitalaw02_PitchOrder.j0 k t418 t431 bt434.1 bt434.2 bt436.1 bt436.2 false t419 t420 t421 t423 t424 t425))) else (if t431 = 0 then (partitalaw02_PitchOrder.j0 k t418 t431 bt434.1 bt434.2 bt436.1 bt436.2 (t433 != t432) t419 t420 t421 t423 t424 t425) else (partitalaw02_PitchOrder.j0 k t418 t431 bt434.1 bt434.2 bt436.1 bt436.2 false t419 t420 t421 t423 t424 t425))) else (if t431 = 0 then (partitalaw02_PitchOrder.j0 k t418 t431 bt434.1 bt434.2 bt436.1 bt436.2 (t433 != t432) t419 t420 t421 t423 t424 t425) else (partitalaw02_PitchOrder.j0 k t418 t431 bt434.1 bt434.2 bt436.1 bt436.2 false t419 t420 t421 t423 t424 t425)))))))) = some r := H; have A8 := A0 A80; clear A80
  replace H := Option.bind_eq_some_iff.mp H
  obtain ⟨t432, A90, H⟩ := H; replace H : ((pitch_Compare.f k t419 t420 t421 t427 t428 t429).bind fun t433 => ((pitch_Number.f t419 t420 t421).bind fun bt434 => ((pitch_Number.f t423 t424 t425).bind fun bt436 => (if t431 < 0 then (if t432 < 0 then (if t433 ≥ 0 then (partitalaw02_PitchOrder.j0 k t418 t431 bt434.1 bt434.2 bt436.1 bt436.2 true t419 t420 t421 t423 t424 t425) else (if t431 > 0 then (if t432 > 0 then (if t433 ≤ 0 then (partitalaw02_PitchOrder.j0 k t418 t431 bt434.1 bt434.2 bt436.1 bt436.2 true t419 t420 t421 t423 t424 t425) else (if t431 = 0 then (partitalaw02_PitchOrder.j0 k t418 t431 bt434.1 bt434.2 bt436.1 bt436.2 (t433 != t432) t419 t420 t421 t423 t424 t425) else (partitalaw02_PitchOrder.j0 k t418 t431 bt434.1 bt434.2 bt436.1 bt436.2 false t419 t420 t421 t423 t424 t425))) else (if t431 = 0 then (partitalaw02_PitchOrder.j0 k t418 t431 bt434.1 bt434.2 bt436.1 bt436.2 (t433 != t432) t419 t420 t421 t423 t424 t425) else (partitalaw02_PitchOrder.j0 k t418 t431 bt434.1 bt434.2 bt436.1 bt436.2 false t419 t420 t421 t423 t424 t425))) else (if t431 = 0 then (partitalaw02_PitchOrder.j0 k t418 t431 bt434.1 bt434.2 bt436.1 bt436.2 (t433 != t432) t419 t420 t421 t423 t424 t425) else (partitalaw02_PitchOrder.j0 k t418 t431 bt434.1 bt434.2 bt436.1 bt436.2 false t419 t420 t421 t423 t424 t425)))) else (if t431 > 0 then (if t432 > 0 then (if t433 ≤ 0 then (partitalaw02_PitchOrder.j0 k t418 t431 bt434.1 bt434.2 bt436.1 bt436.2 true t419 t420 t421 t423 t424 t425) else (if t431 = 0 then (partitalaw02_PitchOrder.j0 k t418 t431 bt434.1 bt434.2 bt436.1 bt436.2 (t433 != t432) t419 t420 t421 t423 t424 t425) else (partitalaw02_PitchOrder.j0 k t418 t431 bt434.1 bt434.2 bt436.1 bt436.2 false t419 t420 t421 t423 t424 t425))) else (if t431 = 0 then (partitalaw02_PitchOrder.j0 k t418 t431 bt434.1 bt434.2 bt436.1 bt436.2 (t433 != t432) t419 t420 t421 t423 t424 t425) else (partitalaw02_PitchOrder.j0 k t418 t431 bt434.1 bt434.2 bt436.1 bt436.2 false t419 t420 t421 t423 t424 t425))) else (if t431 = 0 then (partitalaw02_PitchOrder.j0 k t418 t431 bt434.1 bt434.2 bt436.1 bt436.2 (t433 != t432) t419 t420 t421 t423 t424 t425) else (partitalaw02_PitchOrder.j0 k t418 t431 bt434.1 bt434.2 bt436.1 bt436.2 false t419 t420 t421 t423 t424 t425)))) else (if t431 > 0 then (if t432 > 0 then (if t433 ≤ 0 then (partitalaw02_PitchOrder.j0 k t418 t431 bt434.1 bt434.2 bt436.1 bt436.2 true t419 t420 t421 t423 t424 t425) else (if t431 = 0 then (partitalaw02_PitchOrder.j0 k t418 t431 bt434.1 bt434.2 bt436.1 bt436.2 (t433 != t432) t419 t420 t421 t423 t424 t425) else (partitalaw02_PitchOrder.j0 k t418 t431 bt434.1 bt434.2 bt436.1 bt436.2 false t419 t420 t421 t423 t424 t425))) else (if t431 = 0 then (partitalaw02_PitchOrder.j0 k t418 t431 bt434.1 bt434.2 bt436.1 bt436.2 (t433 != t432) t419 t420 t421 t423 t424 t425) else (partitalaw02_PitchOrder.j0 k t418 t431 bt434.1 bt434.2 bt436.1 bt436.2 false t419 t420 t421 t423 t424 t425))) else (if t431 = 0 then (partitalaw02_PitchOrder.j0 k t418 t431 bt434.1 bt434.2 bt436.1 bt436.2 (t433 != t432) t419 t420 t421 t423 t424 t425) else (partitalaw02_PitchOrder.j0 k t418 t431 bt434.1 bt434.2 bt436.1 bt436.2 false t419 t420 t421 t423 t424 t425))))))) = some r := H; have A9 := A0 A90; clear A90
  replace H := Option.bind_eq_some_iff.mp H
  obtain ⟨t433, A100, H⟩ := H; replace H : ((pitch_Number.f t419 t420 t421).bind fun bt434 => ((pitch_Number.f t423 t424 t425).bind fun bt436 => (if t431 < 0 then (if t432 < 0 then (if t433 ≥ 0 then (partitalaw02_PitchOrder.j0 k t418 t431 bt434.1 bt434.2 bt436.1 bt436.2 true t419 t420 t421 t423 t424 t425) else (if t431 > 0 then (if t432 > 0 then (if t433 ≤ 0 then (partitalaw02_PitchOrder.j0 k t418 t431 bt434.1 bt434.2 bt436.1 bt436.2 true t419 t420 t421 t423 t424 t425) else (if t431 = 0 then (partitalaw02_PitchOrder.j0 k t418 t431 bt434.1 bt434.2 bt436.1 bt436.2 (t433 != t432) t419 t420 t421 t423 t424 t425) else (partitalaw02_PitchOrder.j0 k t418 t431 bt434.1 bt434.2 bt436.1 bt436.2 false t419 t420 t421 t423 t424 t425))) else (if t431 = 0 then (partitalaw02_PitchOrder.j0 k t418 t431 bt434.1 bt434.2 bt436.1 bt436.2 (t433 != t432) t419 t420 t421 t423 t424 t425) else (partitalaw02_PitchOrder.j0 k t418 t431 bt434.1 bt434.2 bt436.1 bt436.2 false t419 t420 t421 t423 t424 t425))) else (if t431 = 0 then (partitalaw02_PitchOrder.j0 k t418 t431 bt434.1 bt434.2 bt436.1 bt436.2 (t433 != t432) t419 t420 t421 t423 t424 t425) else (partitalaw02_PitchOrder.j0 k t418 t431 bt434.1 bt434.2 bt436.1 bt436.2 false t419 t420 t421 t423 t424 t425)))) else (if t431 > 0 then (if t432 > 0 then (if t433 ≤ 0 then (partitalaw02_PitchOrder.j0 k t418 t431 bt434.1 bt434.2 bt436.1 bt436.2 true t419 t420 t421 t423 t424 t425) else (if t431 = 0 then (partitalaw02_PitchOrder.j0 k t418 t431 bt434.1 bt434.2 bt436.1 bt436.2 (t433 != t432) t419 t420 t421 t423 t424 t425) else (partitalaw02_PitchOrder.j0 k t418 t431 bt434.1 bt434.2 bt436.1 bt436.2 false t419 t420 t421 t423 t424 t425))) else (if t431 = 0 then (partitalaw02_PitchOrder.j0 k t418 t431 bt434.1 bt434.2 bt436.1 bt436.2 (t433 != t432) t419 t420 t421 t423 t424 t425) else (partitalaw02_PitchOrder.j0 k t418 t431 bt434.1 bt434.2 bt436.1 bt436.2 false t419 t420 t421 t423 t424 t425))) else (if t431 = 0 then (partitalaw02_PitchOrder.j0 k t418 t431 bt434.1 bt434.2 bt436.1 bt436.2 (t433 != t432) t419 t420 t421 t423 t424 t425) else (partitalaw02_PitchOrder.j0 k t418 t431 bt434.1 bt434.2 bt436.1 bt436.2 false t419 t420 t421 t423 t424 t425)))) else (if t431 > 0 then (if t432 > 0 then (if t433 ≤ 0 then (partitalaw02_PitchOrder.j0 k t418 t431 bt434.1 bt434.2 bt436.1 bt436.2 true t419 t420 t421 t423 t424 t425) else (if t431 = 0 then (partitalaw02_PitchOrder.j0 k t418 t431 bt434.1 bt434.2 bt436.1 bt436.2 (t433 != t432) t419 t420 t421 t423 t424 t425) else (partitalaw02_PitchOrder.j0 k t418 t431 bt434.1 bt434.2 bt436.1 bt436.2 false t419 t420 t421 t423 t424 t425))) else (if t431 = 0 then (partitalaw02_PitchOrder.j0 k t418 t431 bt434.1 bt434.2 bt436.1 bt436.2 (t433 != t432) t419 t420 t421 t423 t424 t425) else (partitalaw02_PitchOrder.j0 k t418 t431 bt434.1 bt434.2 bt436.1 bt436.2 false t419 t420 t421 t423 t424 t425))) else (if t431 = 0 then (partitalaw02_PitchOrder.j0 k t418 t431 bt434.1 bt434.2 bt436.1 bt436.2 (t433 != t432) t419 t420 t421 t423 t424 t425) else (partitalaw02_PitchOrder.j0 k t418 t431 bt434.1 bt434.2 bt436.1 bt436.2 false t419 t420 t421 t423 t424 t425)))))) = some r := H; have A10 := A0 A100; clear A100
  replace H := Option.bind_eq_some_iff.mp H
  obtain ⟨⟨t434, t435⟩, A110, H⟩ := H
  replace H : ((pitch_Number.f t423 t424 t425).bind fun bt436 => (if t431 < 0 then (if t432 < 0 then (if t433 ≥ 0 then (partitalaw02_PitchOrder.j0 k t418 t431 t434 t435 bt436.1 bt436.2 true t419 t420 t421 t423 t424 t425) else (if t431 > 0 then (if t432 > 0 then (if t433 ≤ 0 then (partitalaw02_PitchOrder.j0 k t418 t431 t434 t435 bt436.1 bt436.2 true t419 t420 t421 t423 t424 t425) else (if t431 = 0 then (partitalaw02_PitchOrder.j0 k t418 t431 t434 t435 bt436.1 bt436.2 (t433 != t432) t419 t420 t421 t423 t424 t425) else (partitalaw02_PitchOrder.j0 k t418 t431 t434 t435 bt436.1 bt436.2 false t419 t420 t421 t423 t424 t425))) else (if t431 = 0 then (partitalaw02_PitchOrder.j0 k t418 t431 t434 t435 bt436.1 bt436.2 (t433 != t432) t419 t420 t421 t423 t424 t425) else (partitalaw02_PitchOrder.j0 k t418 t431 t434 t435 bt436.1 bt436.2 false t419 t420 t421 t423 t424 t425))) else (if t431 = 0 then (partitalaw02_PitchOrder.j0 k t418 t431 t434 t435 bt436.1 bt436.2 (t433 != t432) t419 t420 t421 t423 t424 t425) else (partitalaw02_PitchOrder.j0 k t418 t431 t434 t435 bt436.1 bt436.2 false t419 t420 t421 t423 t424 t425)))) else (if t431 > 0 then (if t432 > 0 then (if t433 ≤ 0 then (partitalaw02_PitchOrder.j0 k t418 t431 t434 t435 bt436.1 bt436.2 true t419 t420 t421 t423 t424 t425) else (if t431 = 0 then (partitalaw02_PitchOrder.j0 k t418 t431 t434 t435 bt436.1 bt436.2 (t433 != t432) t419 t420 t421 t423 t424 t425) else (partitalaw02_PitchOrder.j0 k t418 t431 t434 t435 bt436.1 bt436.2 false t419 t420 t421 t423 t424 t425))) else (if t431 = 0 then (partitalaw02_PitchOrder.j0 k t418 t431 t434 t435 bt436.1 bt436.2 (t433 != t432) t419 t420 t421 t423 t424 t425) else (partitalaw02_PitchOrder.j0 k t418 t431 t434 t435 bt436.1 bt436.2 false t419 t420 t421 t423 t424 t425))) else (if t431 = 0 then (partitalaw02_PitchOrder.j0 k t418 t431 t434 t435 bt436.1 bt436.2 (t433 != t432) t419 t420 t421 t423 t424 t425) else (partitalaw02_PitchOrder.j0 k t418 t431 t434 t435 bt436.1 bt436.2 false t419 t420 t421 t423 t424 t425)))) else (if t431 > 0 then (if t432 > 0 then (if t433 ≤ 0 then (partitalaw02_PitchOrder.j0 k t418 t431 t434 t435 bt436.1 bt436.2 true t419 t420 t421 t423 t424 t425) else (if t431 = 0 then (partitalaw02_PitchOrder.j0 k t418 t431 t434 t435 bt436.1 bt436.2 (t433 != t432) t419 t420 t421 t423 t424 t425) else (partitalaw02_PitchOrder.j0 k t418 t431 t434 t435 bt436.1 bt436.2 false t419 t420 t421 t423 t424 t425))) else (if t431 = 0 then (partitalaw02_PitchOrder.j0 k t418 t431 t434 t435 bt436.1 bt436.2 (t433 != t432) t419 t420 t421 t423 t424 t425) else (partitalaw02_PitchOrder.j0 k t418 t431 t434 t435 bt436.1 bt436.2 false t419 t420 t421 t423 t424 t425))) else (if t431 = 0 then (partitalaw02_PitchOrder.j0 k t418 t431 t434 t435 bt436.1 bt436.2 (t433 != t432) t419 t420 t421 t423 t424 t425) else (partitalaw02_PitchOrder.j0 k t418 t431 t434 t435 bt436.1 bt436.2 false t419 t420 t421 t423 t424 t425))))) = some r := H; have A11 := A0 A110; clear A110
  replace H := Option.bind_eq_some_iff.mp H
  obtain ⟨⟨t436, t437⟩, A120, H⟩ := H
  replace H : (if t431 < 0 then (if t432 < 0 then (if t433 ≥ 0 then (partitalaw02_PitchOrder.j0 k t418 t431 t434 t435 t436 t437 true t419 t420 t421 t423 t424 t425) else (if t431 > 0 then (if t432 > 0 then (if t433 ≤ 0 then (partitalaw02_PitchOrder.j0 k t418 t431 t434 t435 t436 t437 true t419 t420 t421 t423 t424 t425) else (if t431 = 0 then (partitalaw02_PitchOrder.j0 k t418 t431 t434 t435 t436 t437 (t433 != t432) t419 t420 t421 t423 t424 t425) else (partitalaw02_PitchOrder.j0 k t418 t431 t434 t435 t436 t437 false t419 t420 t421 t423 t424 t425))) else (if t431 = 0 then (partitalaw02_PitchOrder.j0 k t418 t431 t434 t435 t436 t437 (t433 != t432) t419 t420 t421 t423 t424 t425) else (partitalaw02_PitchOrder.j0 k t418 t431 t434 t435 t436 t437 false t419 t420 t421 t423 t424 t425))) else (if t431 = 0 then (partitalaw02_PitchOrder.j0 k t418 t431 t434 t435 t436 t437 (t433 != t432) t419 t420 t421 t423 t424 t425) else (partitalaw02_PitchOrder.j0 k t418 t431 t434 t435 t436 t437 false t419 t420 t421 t423 t424 t425)))) else (if t431 > 0 then (if t432 > 0 then (if t433 ≤ 0 then (partitalaw02_PitchOrder.j0 k t418 t431 t434 t435 t436 t437 true t419 t420 t421 t423 t424 t425) else (if t431 = 0 then (partitalaw02_PitchOrder.j0 k t418 t431 t434 t435 t436 t437 (t433 != t432) t419 t420 t421 t423 t424 t425) else (partitalaw02_PitchOrder.j0 k t418 t431 t434 t435 t436 t437 false t419 t420 t421 t423 t424 t425))) else (if t431 = 0 then (partitalaw02_PitchOrder.j0 k t418 t431 t434 t435 t436 t437 (t433 != t432) t419 t420 t421 t423 t424 t425) else (partitalaw02_PitchOrder.j0 k t418 t431 t434 t435 t436 t437 false t419 t420 t421 t423 t424 t425))) else (if t431 = 0 then (partitalaw02_PitchOrder.j0 k t418 t431 t434 t435 t436 t437 (t433 != t432) t419 t420 t421 t423 t424 t425) else (partitalaw02_PitchOrder.j0 k t418 t431 t434 t435 t436 t437 false t419 t420 t421 t423 t424 t425)))) else (if t431 > 0 then (if t432 > 0 then (if t433 ≤ 0 then (partitalaw02_PitchOrder.j0 k t418 t431 t434 t435 t436 t437 true t419 t420 t421 t423 t424 t425) else (if t431 = 0 then (partitalaw02_PitchOrder.j0 k t418 t431 t434 t435 t436 t437 (t433 != t432) t419 t420 t421 t423 t424 t425) else (partitalaw02_PitchOrder.j0 k t418 t431 t434 t435 t436 t437 false t419 t420 t421 t423 t424 t425))) else (if t431 = 0 then (partitalaw02_PitchOrder.j0 k t418 t431 t434 t435 t436 t437 (t433 != t432) t419 t420 t421 t423 t424 t425) else (partitalaw02_PitchOrder.j0 k t418 t431 t434 t435 t436 t437 false t419 t420 t421 t423 t424 t425))) else (if t431 = 0 then (partitalaw02_PitchOrder.j0 k t418 t431 t434 t435 t436 t437 (t433 != t432) t419 t420 t421 t423 t424 t425) else (partitalaw02_PitchOrder.j0 k t418 t431 t434 t435 t436 t437 false t419 t420 t421 t423 t424 t425)))) = some r := H; have A12 := A0 A120; clear A120
  have HC13 := A0 H
  clear H
  go_enter Tryd.func8, Tryd.ntmps8
  go_upto_region 10 with (first | ((with_reducible refine gate_dst (N := 3) rfl ?_); refine box_event ?hg (N := 3) ?hd (cs := #[.int .i64 a0_0, .int .i64 a0_1, .int .i64 a0_2]) (t := 23) ?hr ?_; (case hd => rfl); (case hg => rfl); (case hr => go_simp); intro gb415 hg w14 hbox hb; have n0_ := A0 (below_step ww hb); have n1_ := A0 (hbox); have n2_ := A0 ((by rw [hg]; exact (below_size ww) : w.heap.size ≤ gb415)); have n3_ := n2_; clear HB; have HB := n0_; have BK415 := n1_; have GW415 := n2_; have GE415 := n3_; clear n0_ n1_ n2_ n3_; clear hb hbox hg) | ((with_reducible refine gate_dst (N := 4) rfl ?_); refine box_event ?hg (N := 4) ?hd (cs := #[.int .i64 a1_0, .int .i64 a1_1, .int .i64 a1_2]) (t := 23) ?hr ?_; (case hd => rfl); (case hg => rfl); (case hr => go_simp); intro gb416 hg w15 hbox hb; have n0_ := A0 (blk_below (zz BK415) hb); have n1_ := A0 (below_step ww hb); have n2_ := A0 (hbox); have n3_ := A0 ((by rw [hg]; exact (below_size ww) : w.heap.size ≤ gb416)); have n4_ := n3_; have n5_ := A0 ((by rw [hg]; exact Nat.ne_of_lt (blk_lt (zz BK415)) : gb415 ≠ gb416)); have n6_ := A0 n5_.out.symm; clear BK415; clear HB; have BK415 := n0_; have HB := n1_; have BK416 := n2_; have GW416 := n3_; have GE416 := n4_; have NB415_416 := n5_; have NB416_415 := n6_; clear n0_ n1_ n2_ n3_ n4_ n5_ n6_; clear hb hbox hg) | ((with_reducible refine gate_dst (N := 5) rfl ?_); refine box_event ?hg (N := 5) ?hd (cs := #[.int .i64 a2_0, .int .i64 a2_1, .int .i64 a2_2]) (t := 23) ?hr ?_; (case hd => rfl); (case hg => rfl); (case hr => go_simp); intro gb417 hg w16 hbox hb; have n0_ := A0 (blk_below (zz BK415) hb); have n1_ := A0 (blk_below (zz BK416) hb); have n2_ := A0 (below_step ww hb); have n3_ := A0 (hbox); have n4_ := A0 ((by rw [hg]; exact (below_size ww) : w.heap.size ≤ gb417)); have n5_ := n4_; have n6_ := A0 ((by rw [hg]; exact Nat.ne_of_lt (blk_lt (zz BK415)) : gb415 ≠ gb417)); have n7_ := A0 n6_.out.symm; have n8_ := A0 ((by rw [hg]; exact Nat.ne_of_lt (blk_lt (zz BK416)) : gb416 ≠ gb417)); have n9_ := A0 n8_.out.symm; clear BK415; clear BK416; clear HB; have BK415 := n0_; have BK416 := n1_; have HB := n2_; have BK417 := n3_; have GW417 := n4_; have GE417 := n5_; have NB415_417 := n6_; have NB417_415 := n7_; have NB416_417 := n8_; have NB417_416 := n9_; clear n0_ n1_ n2_ n3_ n4_ n5_ n6_ n7_ n8_ n9_; clear hb hbox hg) | ((with_reducible refine gate_callee (f := 12) rfl ?_); refine goesL_ (some 18) rfl rfl Tryd.func12 (by kernel_rfl) rfl #[] rfl (by (try simp only [List.map_toArray, List.map_cons, List.map_nil]); first | done | rfl) ?_; (with_reducible refine (partitalaw02_awake.calls k  t418 _ ?side1 A4.out).mono ?_); (case side1 => exact GW.step HG_.out (by repeat (first | (with_reducible first | exact HB.out | apply below_alloc | apply pw_below_drewN | apply below_drew1 | refine below_set ?_ GE415.out | refine below_set ?_ GE416.out | refine below_set ?_ GE417.out) | exact HB.out))); rintro e w17 ⟨rfl, hb⟩; refine ⟨_, rfl, ?_⟩; have n0_ := A0 (blk_below (zz BK415) hb); have n1_ := A0 (blk_below (zz BK416) hb); have n2_ := A0 (blk_below (zz BK417) hb); have n3_ := A0 (below_step ww hb); clear BK415; clear BK416; clear BK417; clear HB; have BK415 := n0_; have BK416 := n1_; have BK417 := n2_; have HB := n3_; clear n0_ n1_ n2_ n3_; (try clear hb); have hnb18 := NB415_416.out; have hnc18 := NB416_415.out; have hnb19 := NB415_417.out; have hnc19 := NB417_415.out; have hcz20_0 : w17.cell? ⟨gb415, 0, none⟩ = some (.int .i64 a0_0) := (blk_cell BK415.out 0).trans rfl; have hcz20_1 : w17.cell? ⟨gb415, 1, none⟩ = some (.int .i64 a0_1) := (blk_cell BK415.out 1).trans rfl; have hcz20_2 : w17.cell? ⟨gb415, 2, none⟩ = some (.int .i64 a0_2) := (blk_cell BK415.out 2).trans rfl; have hfz20_0 := blk_frozen BK415.out 0; have hfz20_1 := blk_frozen BK415.out 1; have hfz20_2 := blk_frozen BK415.out 2) | ((with_reducible refine gate_callee (f := 13) rfl ?_); refine goesL_ (some 20) rfl rfl Tryd.func13 (by kernel_rfl) rfl #[.agg #[.int .i64 a0_0, .int .i64 a0_1, .int .i64 a0_2]] rfl (by (try simp only [List.map_toArray, List.map_cons, List.map_nil]); first | done | rfl) ?_; (with_reducible refine (partitalaw02_Pitch.calls a0_0 a0_1 a0_2 t419 t420 t421 _ A5.out).mono ?_); rintro e w21 ⟨rfl, hb⟩; refine ⟨_, rfl, ?_⟩; have n0_ := A0 (blk_below (zz BK415) hb); have n1_ := A0 (blk_below (zz BK416) hb); have n2_ := A0 (blk_below (zz BK417) hb); have n3_ := A0 (below_step ww hb); clear BK415; clear BK416; clear BK417; clear HB; have BK415 := n0_; have BK416 := n1_; have BK417 := n2_; have HB := n3_; clear n0_ n1_ n2_ n3_; (try clear hb)) | ((with_reducible refine gate_dst (N := 8) rfl ?_); refine box_event ?hg (N := 8) ?hd (cs := #[.int .i64 0, .int .i64 0, .int .i64 0]) (t := 23) ?hr ?_; (case hd => rfl); (case hg => rfl); (case hr => go_simp); intro gb422 hg w22 hbox hb; have n0_ := A0 (blk_below (zz BK415) hb); have n1_ := A0 (blk_below (zz BK416) hb); have n2_ := A0 (blk_below (zz BK417) hb); have n3_ := A0 (below_step ww hb); have n4_ := A0 (hbox); have n5_ := A0 ((by rw [hg]; exact (below_size ww) : w.heap.size ≤ gb422)); have n6_ := n5_; have n7_ := A0 ((by rw [hg]; exact Nat.ne_of_lt (blk_lt (zz BK415)) : gb415 ≠ gb422)); have n8_ := A0 n7_.out.symm; have n9_ := A0 ((by rw [hg]; exact Nat.ne_of_lt (blk_lt (zz BK416)) : gb416 ≠ gb422)); have n10_ := A0 n9_.out.symm; have n11_ := A0 ((by rw [hg]; exact Nat.ne_of_lt (blk_lt (zz BK417)) : gb417 ≠ gb422)); have n12_ := A0 n11_.out.symm; clear BK415; clear BK416; clear BK417; clear HB; have BK415 := n0_; have BK416 := n1_; have BK417 := n2_; have HB := n3_; have BK422 := n4_; have GW422 := n5_; have GE422 := n6_; have NB415_422 := n7_; have NB422_415 := n8_; have NB416_422 := n9_; have NB422_416 := n10_; have NB417_422 := n11_; have NB422_417 := n12_; clear n0_ n1_ n2_ n3_ n4_ n5_ n6_ n7_ n8_ n9_ n10_ n11_ n12_; clear hb hbox hg; have hnb23 := NB422_415.out; have hnc23 := NB415_422.out; have hnb24 := NB422_416.out; have hnc24 := NB416_422.out; have hnb25 := NB422_417.out; have hnc25 := NB417_422.out; have hcz26_0 : w22.cell? ⟨gb422, 0, none⟩ = some (.int .i64 0) := (blk_cell BK422.out 0).trans rfl; have hcz26_1 : w22.cell? ⟨gb422, 1, none⟩ = some (.int .i64 0) := (blk_cell BK422.out 1).trans rfl; have hcz26_2 : w22.cell? ⟨gb422, 2, none⟩ = some (.int .i64 0) := (blk_cell BK422.out 2).trans rfl; have hfz26_0 := blk_frozen BK422.out 0; have hfz26_1 := blk_frozen BK422.out 1; have hfz26_2 := blk_frozen BK422.out 2; have hnb27 := NB416_417.out; have hnc27 := NB417_416.out; have hcz28_0 : w22.cell? ⟨gb416, 0, none⟩ = some (.int .i64 a1_0) := (blk_cell BK416.out 0).trans rfl; have hcz28_1 : w22.cell? ⟨gb416, 1, none⟩ = some (.int .i64 a1_1) := (blk_cell BK416.out 1).trans rfl; have hcz28_2 : w22.cell? ⟨gb416, 2, none⟩ = some (.int .i64 a1_2) := (blk_cell BK416.out 2).trans rfl; have hfz28_0 := blk_frozen BK416.out 0; have hfz28_1 := blk_frozen BK416.out 1; have hfz28_2 := blk_frozen BK416.out 2) | ((with_reducible refine gate_callee (f := 13) rfl ?_); refine goesL_ (some 22) rfl rfl Tryd.func13 (by kernel_rfl) rfl #[.agg #[.int .i64 a1_0, .int .i64 a1_1, .int .i64 a1_2]] rfl (by (try simp only [List.map_toArray, List.map_cons, List.map_nil]); first | done | rfl) ?_; (with_reducible refine (partitalaw02_Pitch.calls a1_0 a1_1 a1_2 t423 t424 t425 _ A6.out).mono ?_); rintro e w29 ⟨rfl, hb⟩; refine ⟨_, rfl, ?_⟩; have n0_ := A0 (blk_below (zz BK415) hb); have n1_ := A0 (blk_below (zz BK416) hb); have n2_ := A0 (blk_below (zz BK417) hb); have n3_ := A0 (blk_below (g := gb422) (o := .cells #[.int .i64 t419, .int .i64 t420, .int .i64 t421] 23 (0, 0)) (by (with_reducible repeat (first | refine bN ?_ _ | refine bD ?_ | refine bA ?_ _)); refine blk_put (cs := #[.int .i64 t419, .int .i64 t420, .int .i64 0]) ?_ 2 _ rfl; (with_reducible repeat (first | refine bN ?_ _ | refine bD ?_ | refine bA ?_ _)); refine blk_put (cs := #[.int .i64 t419, .int .i64 0, .int .i64 0]) ?_ 1 _ rfl; (with_reducible repeat (first | refine bN ?_ _ | refine bD ?_ | refine bA ?_ _)); refine blk_put (cs := #[.int .i64 0, .int .i64 0, .int .i64 0]) ?_ 0 _ rfl; (with_reducible repeat (first | refine bN ?_ _ | refine bD ?_ | refine bA ?_ _)); exact BK422.out) hb); have n4_ := A0 (below_step ww hb); clear BK415; clear BK416; clear BK417; clear BK422; clear HB; have BK415 := n0_; have BK416 := n1_; have BK417 := n2_; have BK422 := n3_; have HB := n4_; clear n0_ n1_ n2_ n3_ n4_; (try clear hb)) | ((with_reducible refine gate_dst (N := 9) rfl ?_); refine box_event ?hg (N := 9) ?hd (cs := #[.int .i64 0, .int .i64 0, .int .i64 0]) (t := 23) ?hr ?_; (case hd => rfl); (case hg => rfl); (case hr => go_simp); intro gb426 hg w30 hbox hb; have n0_ := A0 (blk_below (zz BK415) hb); have n1_ := A0 (blk_below (zz BK416) hb); have n2_ := A0 (blk_below (zz BK417) hb); have n3_ := A0 (blk_below (zz BK422) hb); have n4_ := A0 (below_step ww hb); have n5_ := A0 (hbox); have n6_ := A0 ((by rw [hg]; exact (below_size ww) : w.heap.size ≤ gb426)); have n7_ := n6_; have n8_ := A0 ((by rw [hg]; exact Nat.ne_of_lt (blk_lt (zz BK415)) : gb415 ≠ gb426)); have n9_ := A0 n8_.out.symm; have n10_ := A0 ((by rw [hg]; exact Nat.ne_of_lt (blk_lt (zz BK416)) : gb416 ≠ gb426)); have n11_ := A0 n10_.out.symm; have n12_ := A0 ((by rw [hg]; exact Nat.ne_of_lt (blk_lt (zz BK417)) : gb417 ≠ gb426)); have n13_ := A0 n12_.out.symm; have n14_ := A0 ((by rw [hg]; exact Nat.ne_of_lt (blk_lt (zz BK422)) : gb422 ≠ gb426)); have n15_ := A0 n14_.out.symm; clear BK415; clear BK416; clear BK417; clear BK422; clear HB; have BK415 := n0_; have BK416 := n1_; have BK417 := n2_; have BK422 := n3_; have HB := n4_; have BK426 := n5_; have GW426 := n6_; have GE426 := n7_; have NB415_426 := n8_; have NB426_415 := n9_; have NB416_426 := n10_; have NB426_416 := n11_; have NB417_426 := n12_; have NB426_417 := n13_; have NB422_426 := n14_; have NB426_422 := n15_; clear n0_ n1_ n2_ n3_ n4_ n5_ n6_ n7_ n8_ n9_ n10_ n11_ n12_ n13_ n14_ n15_; clear hb hbox hg; have hnb31 := NB426_415.out; have hnc31 := NB415_426.out; have hnb32 := NB426_416.out; have hnc32 := NB416_426.out; have hnb33 := NB426_417.out; have hnc33 := NB417_426.out; have hnb34 := NB426_422.out; have hnc34 := NB422_426.out; have hcz35_0 : w30.cell? ⟨gb426, 0, none⟩ = some (.int .i64 0) := (blk_cell BK426.out 0).trans rfl; have hcz35_1 : w30.cell? ⟨gb426, 1, none⟩ = some (.int .i64 0) := (blk_cell BK426.out 1).trans rfl; have hcz35_2 : w30.cell? ⟨gb426, 2, none⟩ = some (.int .i64 0) := (blk_cell BK426.out 2).trans rfl; have hfz35_0 := blk_frozen BK426.out 0; have hfz35_1 := blk_frozen BK426.out 1; have hfz35_2 := blk_frozen BK426.out 2; have hcz36_0 : w30.cell? ⟨gb417, 0, none⟩ = some (.int .i64 a2_0) := (blk_cell BK417.out 0).trans rfl; have hcz36_1 : w30.cell? ⟨gb417, 1, none⟩ = some (.int .i64 a2_1) := (blk_cell BK417.out 1).trans rfl; have hcz36_2 : w30.cell? ⟨gb417, 2, none⟩ = some (.int .i64 a2_2) := (blk_cell BK417.out 2).trans rfl; have hfz36_0 := blk_frozen BK417.out 0; have hfz36_1 := blk_frozen BK417.out 1; have hfz36_2 := blk_frozen BK417.out 2) | ((with_reducible refine gate_callee (f := 13) rfl ?_); refine goesL_ (some 24) rfl rfl Tryd.func13 (by kernel_rfl) rfl #[.agg #[.int .i64 a2_0, .int .i64 a2_1, .int .i64 a2_2]] rfl (by (try simp only [List.map_toArray, List.map_cons, List.map_nil]); first | done | rfl) ?_; (with_reducible refine (partitalaw02_Pitch.calls a2_0 a2_1 a2_2 t427 t428 t429 _ A7.out).mono ?_); rintro e w37 ⟨rfl, hb⟩; refine ⟨_, rfl, ?_⟩; have n0_ := A0 (blk_below (zz BK415) hb); have n1_ := A0 (blk_below (zz BK416) hb); have n2_ := A0 (blk_below (zz BK417) hb); have n3_ := A0 (blk_below (zz BK422) hb); have n4_ := A0 (blk_below (g := gb426) (o := .cells #[.int .i64 t423, .int .i64 t424, .int .i64 t425] 23 (0, 0)) (by (with_reducible repeat (first | refine bN ?_ _ | refine bD ?_ | refine bA ?_ _)); refine blk_put (cs := #[.int .i64 t423, .int .i64 t424, .int .i64 0]) ?_ 2 _ rfl; (with_reducible repeat (first | refine bN ?_ _ | refine bD ?_ | refine bA ?_ _)); refine blk_put (cs := #[.int .i64 t423, .int .i64 0, .int .i64 0]) ?_ 1 _ rfl; (with_reducible repeat (first | refine bN ?_ _ | refine bD ?_ | refine bA ?_ _)); refine blk_put (cs := #[.int .i64 0, .int .i64 0, .int .i64 0]) ?_ 0 _ rfl; (with_reducible repeat (first | refine bN ?_ _ | refine bD ?_ | refine bA ?_ _)); exact BK426.out) hb); have n5_ := A0 (below_step ww hb); clear BK415; clear BK416; clear BK417; clear BK422; clear BK426; clear HB; have BK415 := n0_; have BK416 := n1_; have BK417 := n2_; have BK422 := n3_; have BK426 := n4_; have HB := n5_; clear n0_ n1_ n2_ n3_ n4_ n5_; (try clear hb)) | ((with_reducible refine gate_dst (N := 10) rfl ?_); refine box_event ?hg (N := 10) ?hd (cs := #[.int .i64 0, .int .i64 0, .int .i64 0]) (t := 23) ?hr ?_; (case hd => rfl); (case hg => rfl); (case hr => go_simp); intro gb430 hg w38 hbox hb; have n0_ := A0 (blk_below (zz BK415) hb); have n1_ := A0 (blk_below (zz BK416) hb); have n2_ := A0 (blk_below (zz BK417) hb); have n3_ := A0 (blk_below (zz BK422) hb); have n4_ := A0 (blk_below (zz BK426) hb); have n5_ := A0 (below_step ww hb); have n6_ := A0 (hbox); have n7_ := A0 ((by rw [hg]; exact (below_size ww) : w.heap.size ≤ gb430)); have n8_ := n7_; have n9_ := A0 ((by rw [hg]; exact Nat.ne_of_lt (blk_lt (zz BK415)) : gb415 ≠ gb430)); have n10_ := A0 n9_.out.symm; have n11_ := A0 ((by rw [hg]; exact Nat.ne_of_lt (blk_lt (zz BK416)) : gb416 ≠ gb430)); have n12_ := A0 n11_.out.symm; have n13_ := A0 ((by rw [hg]; exact Nat.ne_of_lt (blk_lt (zz BK417)) : gb417 ≠ gb430)); have n14_ := A0 n13_.out.symm; have n15_ := A0 ((by rw [hg]; exact Nat.ne_of_lt (blk_lt (zz BK422)) : gb422 ≠ gb430)); have n16_ := A0 n15_.out.symm; have n17_ := A0 ((by rw [hg]; exact Nat.ne_of_lt (blk_lt (zz BK426)) : gb426 ≠ gb430)); have n18_ := A0 n17_.out.symm; clear BK415; clear BK416; clear BK417; clear BK422; clear BK426; clear HB; have BK415 := n0_; have BK416 := n1_; have BK417 := n2_; have BK422 := n3_; have BK426 := n4_; have HB := n5_; have BK430 := n6_; have GW430 := n7_; have GE430 := n8_; have NB415_430 := n9_; have NB430_415 := n10_; have NB416_430 := n11_; have NB430_416 := n12_; have NB417_430 := n13_; have NB430_417 := n14_; have NB422_430 := n15_; have NB430_422 := n16_; have NB426_430 := n17_; have NB430_426 := n18_; clear n0_ n1_ n2_ n3_ n4_ n5_ n6_ n7_ n8_ n9_ n10_ n11_ n12_ n13_ n14_ n15_ n16_ n17_ n18_; clear hb hbox hg; have hnb39 := NB430_415.out; have hnc39 := NB415_430.out; have hnb40 := NB430_416.out; have hnc40 := NB416_430.out; have hnb41 := NB430_417.out; have hnc41 := NB417_430.out; have hnb42 := NB430_422.out; have hnc42 := NB422_430.out; have hnb43 := NB430_426.out; have hnc43 := NB426_430.out; have hcz44_0 : w38.cell? ⟨gb430, 0, none⟩ = some (.int .i64 0) := (blk_cell BK430.out 0).trans rfl; have hcz44_1 : w38.cell? ⟨gb430, 1, none⟩ = some (.int .i64 0) := (blk_cell BK430.out 1).trans rfl; have hcz44_2 : w38.cell? ⟨gb430, 2, none⟩ = some (.int .i64 0) := (blk_cell BK430.out 2).trans rfl; have hfz44_0 := blk_frozen BK430.out 0; have hfz44_1 := blk_frozen BK430.out 1; have hfz44_2 := blk_frozen BK430.out 2; have hcz45_0 : w38.cell? ⟨gb422, 0, none⟩ = some (.int .i64 t419) := (blk_cell BK422.out 0).trans rfl; have hcz45_1 : w38.cell? ⟨gb422, 1, none⟩ = some (.int .i64 t420) := (blk_cell BK422.out 1).trans rfl; have hcz45_2 : w38.cell? ⟨gb422, 2, none⟩ = some (.int .i64 t421) := (blk_cell BK422.out 2).trans rfl; have hfz45_0 := blk_frozen BK422.out 0; have hfz45_1 := blk_frozen BK422.out 1; have hfz45_2 := blk_frozen BK422.out 2; have hcz46_0 : w38.cell? ⟨gb426, 0, none⟩ = some (.int .i64 t423) := (blk_cell BK426.out 0).trans rfl; have hcz46_1 : w38.cell? ⟨gb426, 1, none⟩ = some (.int .i64 t424) := (blk_cell BK426.out 1).trans rfl; have hcz46_2 : w38.cell? ⟨gb426, 2, none⟩ = some (.int .i64 t425) := (blk_cell BK426.out 2).trans rfl; have hfz46_0 := blk_frozen BK426.out 0; have hfz46_1 := blk_frozen BK426.out 1; have hfz46_2 := blk_frozen BK426.out 2) | ((with_reducible refine gate_callee (f := 27) rfl ?_); refine goesL_ (some 27) rfl rfl Tryd.func27 (by kernel_rfl) rfl #[.agg #[.int .i64 t419, .int .i64 t420, .int .i64 t421], .agg #[.int .i64 t423, .int .i64 t424, .int .i64 t425]] rfl (by (try simp only [List.map_toArray, List.map_cons, List.map_nil]); first | done | rfl) ?_; (with_reducible refine (pitch_Compare.calls k t419 t420 t421 t423 t424 t425 t431 _ ?side1 A8.out).mono ?_); (case side1 => exact GW.step HG_.out (by repeat (first | (with_reducible first | exact HB.out | apply below_alloc | apply pw_below_drewN | apply below_drew1 | refine below_set ?_ GE415.out | refine below_set ?_ GE416.out | refine below_set ?_ GE417.out | refine below_set ?_ GE422.out | refine below_set ?_ GE426.out | refine below_set ?_ GE430.out) | exact HB.out))); rintro e w47 ⟨rfl, hb⟩; refine ⟨_, rfl, ?_⟩; have n0_ := A0 (blk_below (zz BK415) hb); have n1_ := A0 (blk_below (zz BK416) hb); have n2_ := A0 (blk_below (zz BK417) hb); have n3_ := A0 (blk_below (zz BK422) hb); have n4_ := A0 (blk_below (zz BK426) hb); have n5_ := A0 (blk_below (g := gb430) (o := .cells #[.int .i64 t427, .int .i64 t428, .int .i64 t429] 23 (0, 0)) (by (with_reducible repeat (first | refine bN ?_ _ | refine bD ?_ | refine bA ?_ _)); refine blk_put (cs := #[.int .i64 t427, .int .i64 t428, .int .i64 0]) ?_ 2 _ rfl; (with_reducible repeat (first | refine bN ?_ _ | refine bD ?_ | refine bA ?_ _)); refine blk_put (cs := #[.int .i64 t427, .int .i64 0, .int .i64 0]) ?_ 1 _ rfl; (with_reducible repeat (first | refine bN ?_ _ | refine bD ?_ | refine bA ?_ _)); refine blk_put (cs := #[.int .i64 0, .int .i64 0, .int .i64 0]) ?_ 0 _ rfl; (with_reducible repeat (first | refine bN ?_ _ | refine bD ?_ | refine bA ?_ _)); exact BK430.out) hb); have n6_ := A0 (below_step ww hb); clear BK415; clear BK416; clear BK417; clear BK422; clear BK426; clear BK430; clear HB; have BK415 := n0_; have BK416 := n1_; have BK417 := n2_; have BK422 := n3_; have BK426 := n4_; have BK430 := n5_; have HB := n6_; clear n0_ n1_ n2_ n3_ n4_ n5_ n6_; (try clear hb); have hcz48_0 : w47.cell? ⟨gb426, 0, none⟩ = some (.int .i64 t423) := (blk_cell BK426.out 0).trans rfl; have hcz48_1 : w47.cell? ⟨gb426, 1, none⟩ = some (.int .i64 t424) := (blk_cell BK426.out 1).trans rfl; have hcz48_2 : w47.cell? ⟨gb426, 2, none⟩ = some (.int .i64 t425) := (blk_cell BK426.out 2).trans rfl; have hfz48_0 := blk_frozen BK426.out 0; have hfz48_1 := blk_frozen BK426.out 1; have hfz48_2 := blk_frozen BK426.out 2; have hcz49_0 : w47.cell? ⟨gb430, 0, none⟩ = some (.int .i64 t427) := (blk_cell BK430.out 0).trans rfl; have hcz49_1 : w47.cell? ⟨gb430, 1, none⟩ = some (.int .i64 t428) := (blk_cell BK430.out 1).trans rfl; have hcz49_2 : w47.cell? ⟨gb430, 2, none⟩ = some (.int .i64 t429) := (blk_cell BK430.out 2).trans rfl; have hfz49_0 := blk_frozen BK430.out 0; have hfz49_1 := blk_frozen BK430.out 1; have hfz49_2 := blk_frozen BK430.out 2) | ((with_reducible refine gate_callee (f := 27) rfl ?_); refine goesL_ (some 30) rfl rfl Tryd.func27 (by kernel_rfl) rfl #[.agg #[.int .i64 t423, .int .i64 t424, .int .i64 t425], .agg #[.int .i64 t427, .int .i64 t428, .int .i64 t429]] rfl (by (try simp only [List.map_toArray, List.map_cons, List.map_nil]); first | done | rfl) ?_; (with_reducible refine (pitch_Compare.calls k t423 t424 t425 t427 t428 t429 t432 _ ?side1 A9.out).mono ?_); (case side1 => exact GW.step HG_.out (by repeat (first | (with_reducible first | exact HB.out | apply below_alloc | apply pw_below_drewN | apply below_drew1 | refine below_set ?_ GE415.out | refine below_set ?_ GE416.out | refine below_set ?_ GE417.out | refine below_set ?_ GE422.out | refine below_set ?_ GE426.out | refine below_set ?_ GE430.out) | exact HB.out))); rintro e w50 ⟨rfl, hb⟩; refine ⟨_, rfl, ?_⟩; have n0_ := A0 (blk_below (zz BK415) hb); have n1_ := A0 (blk_below (zz BK416) hb); have n2_ := A0 (blk_below (zz BK417) hb); have n3_ := A0 (blk_below (zz BK422) hb); have n4_ := A0 (blk_below (zz BK426) hb); have n5_ := A0 (blk_below (zz BK430) hb); have n6_ := A0 (below_step ww hb); clear BK415; clear BK416; clear BK417; clear BK422; clear BK426; clear BK430; clear HB; have BK415 := n0_; have BK416 := n1_; have BK417 := n2_; have BK422 := n3_; have BK426 := n4_; have BK430 := n5_; have HB := n6_; clear n0_ n1_ n2_ n3_ n4_ n5_ n6_; (try clear hb); have hcz51_0 : w50.cell? ⟨gb422, 0, none⟩ = some (.int .i64 t419) := (blk_cell BK422.out 0).trans rfl; have hcz51_1 : w50.cell? ⟨gb422, 1, none⟩ = some (.int .i64 t420) := (blk_cell BK422.out 1).trans rfl; have hcz51_2 : w50.cell? ⟨gb422, 2, none⟩ = some (.int .i64 t421) := (blk_cell BK422.out 2).trans rfl; have hfz51_0 := blk_frozen BK422.out 0; have hfz51_1 := blk_frozen BK422.out 1; have hfz51_2 := blk_frozen BK422.out 2; have hcz52_0 : w50.cell? ⟨gb430, 0, none⟩ = some (.int .i64 t427) := (blk_cell BK430.out 0).trans rfl; have hcz52_1 : w50.cell? ⟨gb430, 1, none⟩ = some (.int .i64 t428) := (blk_cell BK430.out 1).trans rfl; have hcz52_2 : w50.cell? ⟨gb430, 2, none⟩ = some (.int .i64 t429) := (blk_cell BK430.out 2).trans rfl; have hfz52_0 := blk_frozen BK430.out 0; have hfz52_1 := blk_frozen BK430.out 1; have hfz52_2 := blk_frozen BK430.out 2) | ((with_reducible refine gate_callee (f := 27) rfl ?_); refine goesL_ (some 33) rfl rfl Tryd.func27 (by kernel_rfl) rfl #[.agg #[.int .i64 t419, .int .i64 t420, .int .i64 t421], .agg #[.int .i64 t427, .int .i64 t428, .int .i64 t429]] rfl (by (try simp only [List.map_toArray, List.map_cons, List.map_nil]); first | done | rfl) ?_; (with_reducible refine (pitch_Compare.calls k t419 t420 t421 t427 t428 t429 t433 _ ?side1 A10.out).mono ?_); (case side1 => exact GW.step HG_.out (by repeat (first | (with_reducible first | exact HB.out | apply below_alloc | apply pw_below_drewN | apply below_drew1 | refine below_set ?_ GE415.out | refine below_set ?_ GE416.out | refine below_set ?_ GE417.out | refine below_set ?_ GE422.out | refine below_set ?_ GE426.out | refine below_set ?_ GE430.out) | exact HB.out))); rintro e w53 ⟨rfl, hb⟩; refine ⟨_, rfl, ?_⟩; have n0_ := A0 (blk_below (zz BK415) hb); have n1_ := A0 (blk_below (zz BK416) hb); have n2_ := A0 (blk_below (zz BK417) hb); have n3_ := A0 (blk_below (zz BK422) hb); have n4_ := A0 (blk_below (zz BK426) hb); have n5_ := A0 (blk_below (zz BK430) hb); have n6_ := A0 (below_step ww hb); clear BK415; clear BK416; clear BK417; clear BK422; clear BK426; clear BK430; clear HB; have BK415 := n0_; have BK416 := n1_; have BK417 := n2_; have BK422 := n3_; have BK426 := n4_; have BK430 := n5_; have HB := n6_; clear n0_ n1_ n2_ n3_ n4_ n5_ n6_; (try clear hb); have hcz54_0 : w53.cell? ⟨gb422, 0, none⟩ = some (.int .i64 t419) := (blk_cell BK422.out 0).trans rfl; have hcz54_1 : w53.cell? ⟨gb422, 1, none⟩ = some (.int .i64 t420) := (blk_cell BK422.out 1).trans rfl; have hcz54_2 : w53.cell? ⟨gb422, 2, none⟩ = some (.int .i64 t421) := (blk_cell BK422.out 2).trans rfl; have hfz54_0 := blk_frozen BK422.out 0; have hfz54_1 := blk_frozen BK422.out 1; have hfz54_2 := blk_frozen BK422.out 2) | ((with_reducible refine gate_callee (f := 14) rfl ?_); refine goesL_ (some 36) rfl rfl Tryd.func14 (by kernel_rfl) rfl #[.agg #[.int .i64 t419, .int .i64 t420, .int .i64 t421]] rfl (by (try simp only [List.map_toArray, List.map_cons, List.map_nil]); first | done | rfl) ?_; (with_reducible refine (pitch_Number.calls t419 t420 t421 t434 t435 _ ?side1 A11.out).mono ?_); (case side1 => exact GW.step HG_.out (by repeat (first | (with_reducible first | exact HB.out | apply below_alloc | apply pw_below_drewN | apply below_drew1 | refine below_set ?_ GE415.out | refine below_set ?_ GE416.out | refine below_set ?_ GE417.out | refine below_set ?_ GE422.out | refine below_set ?_ GE426.out | refine below_set ?_ GE430.out) | exact HB.out))); rintro e w55 ⟨rfl, hb⟩; refine ⟨_, rfl, ?_⟩; have n0_ := A0 (blk_below (zz BK415) hb); have n1_ := A0 (blk_below (zz BK416) hb); have n2_ := A0 (blk_below (zz BK417) hb); have n3_ := A0 (blk_below (zz BK422) hb); have n4_ := A0 (blk_below (zz BK426) hb); have n5_ := A0 (blk_below (zz BK430) hb); have n6_ := A0 (below_step ww hb); clear BK415; clear BK416; clear BK417; clear BK422; clear BK426; clear BK430; clear HB; have BK415 := n0_; have BK416 := n1_; have BK417 := n2_; have BK422 := n3_; have BK426 := n4_; have BK430 := n5_; have HB := n6_; clear n0_ n1_ n2_ n3_ n4_ n5_ n6_; (try clear hb); have hcz56_0 : w55.cell? ⟨gb426, 0, none⟩ = some (.int .i64 t423) := (blk_cell BK426.out 0).trans rfl; have hcz56_1 : w55.cell? ⟨gb426, 1, none⟩ = some (.int .i64 t424) := (blk_cell BK426.out 1).trans rfl; have hcz56_2 : w55.cell? ⟨gb426, 2, none⟩ = some (.int .i64 t425) := (blk_cell BK426.out 2).trans rfl; have hfz56_0 := blk_frozen BK426.out 0; have hfz56_1 := blk_frozen BK426.out 1; have hfz56_2 := blk_frozen BK426.out 2) | ((with_reducible refine gate_callee (f := 14) rfl ?_); refine goesL_ (some 41) rfl rfl Tryd.func14 (by kernel_rfl) rfl #[.agg #[.int .i64 t423, .int .i64 t424, .int .i64 t425]] rfl (by (try simp only [List.map_toArray, List.map_cons, List.map_nil]); first | done | rfl) ?_; (with_reducible refine (pitch_Number.calls t423 t424 t425 t436 t437 _ ?side1 A12.out).mono ?_); (case side1 => exact GW.step HG_.out (by repeat (first | (with_reducible first | exact HB.out | apply below_alloc | apply pw_below_drewN | apply below_drew1 | refine below_set ?_ GE415.out | refine below_set ?_ GE416.out | refine below_set ?_ GE417.out | refine below_set ?_ GE422.out | refine below_set ?_ GE426.out | refine below_set ?_ GE430.out) | exact HB.out))); rintro e w57 ⟨rfl, hb⟩; refine ⟨_, rfl, ?_⟩; have n0_ := A0 (blk_below (zz BK415) hb); have n1_ := A0 (blk_below (zz BK416) hb); have n2_ := A0 (blk_below (zz BK417) hb); have n3_ := A0 (blk_below (zz BK422) hb); have n4_ := A0 (blk_below (zz BK426) hb); have n5_ := A0 (blk_below (zz BK430) hb); have n6_ := A0 (below_step ww hb); clear BK415; clear BK416; clear BK417; clear BK422; clear BK426; clear BK430; clear HB; have BK415 := n0_; have BK416 := n1_; have BK417 := n2_; have BK422 := n3_; have BK426 := n4_; have BK430 := n5_; have HB := n6_; clear n0_ n1_ n2_ n3_ n4_ n5_ n6_; (try clear hb)))
  (try simp only [Act.put, q1, q2, q3])
  go_cut [74] (fun v74 wc => ∃ (kq : Nat) (x74_12 : Bool), v74 = .bool x74_12 ∧ Aside0 (partitalaw02_PitchOrder.j0 kq t418 t431 t434 t435 t436 t437 x74_12 t419 t420 t421 t423 t424 t425 = some r) ∧ Aside0 (kq ≤ k) ∧ Aside0 (wc.heap[gb415]? = some (.cells #[.int .i64 a0_0, .int .i64 a0_1, .int .i64 a0_2] 23 (0, 0))) ∧ Aside0 (wc.heap[gb416]? = some (.cells #[.int .i64 a1_0, .int .i64 a1_1, .int .i64 a1_2] 23 (0, 0))) ∧ Aside0 (wc.heap[gb417]? = some (.cells #[.int .i64 a2_0, .int .i64 a2_1, .int .i64 a2_2] 23 (0, 0))) ∧ Aside0 (wc.heap[gb422]? = some (.cells #[.int .i64 t419, .int .i64 t420, .int .i64 t421] 23 (0, 0))) ∧ Aside0 (wc.heap[gb426]? = some (.cells #[.int .i64 t423, .int .i64 t424, .int .i64 t425] 23 (0, 0))) ∧ Aside0 (wc.heap[gb430]? = some (.cells #[.int .i64 t427, .int .i64 t428, .int .i64 t429] 23 (0, 0))) ∧ Aside0 (Below w.heap.size w wc))
  case first =>
   have H := HC13.out
   clear HC13
   by_cases c58 : t431 < 0
   ·rw [if_pos c58] at H
    have c58b0 : decide (t431 < 0) = true := decide_eq_true c58
    clear c58
    (first | rw [c58b0] | (simp only [i64_w, i32_w]; rw [c58b0]) | skip)
    by_cases c59 : t432 < 0
    ·rw [if_pos c59] at H
     have c59b0 : decide (t432 < 0) = true := decide_eq_true c59
     clear c59
     by_cases c60 : t433 ≥ 0
     ·rw [if_pos c60] at H
      have c60b0 : decide (0 ≤ t433) = true := decide_eq_true c60
      clear c60
      have H' := A0 H
      clear H
      go_wp2
      go_meet
      case rel => exact ⟨_, (true), (by first | rfl | (simp; done) | (simp [*]; done)), H', ⟨by first | omega | exact Nat.le_refl _⟩, ⟨zz BK415⟩, ⟨zz BK416⟩, ⟨zz BK417⟩, ⟨zz BK422⟩, ⟨zz BK426⟩, ⟨zz BK430⟩, ⟨by repeat (first | (with_reducible first | exact HB.out | apply below_alloc | apply pw_below_drewN | apply below_drew1 | refine below_set ?_ GE415.out | refine below_set ?_ GE416.out | refine below_set ?_ GE417.out | refine below_set ?_ GE422.out | refine below_set ?_ GE426.out | refine below_set ?_ GE430.out) | exact HB.out)⟩⟩
     ·rw [if_neg c60] at H
      have c60b0 : decide (0 ≤ t433) = false := decide_eq_false c60
      clear c60
      by_cases c61 : t431 > 0
      ·rw [if_pos c61] at H
       have c61b0 : decide (0 < t431) = true := decide_eq_true c61
       clear c61
       by_cases c62 : t432 > 0
       ·rw [if_pos c62] at H
        have c62b0 : decide (0 < t432) = true := decide_eq_true c62
        clear c62
        by_cases c63 : t433 ≤ 0
        ·rw [if_pos c63] at H
         have c63b0 : decide (t433 ≤ 0) = true := decide_eq_true c63
         clear c63
         have H' := A0 H
         clear H
         go_wp2
         go_meet
         case rel => exact ⟨_, (true), (by first | rfl | (simp; done) | (simp [*]; done)), H', ⟨by first | omega | exact Nat.le_refl _⟩, ⟨zz BK415⟩, ⟨zz BK416⟩, ⟨zz BK417⟩, ⟨zz BK422⟩, ⟨zz BK426⟩, ⟨zz BK430⟩, ⟨by repeat (first | (with_reducible first | exact HB.out | apply below_alloc | apply pw_below_drewN | apply below_drew1 | refine below_set ?_ GE415.out | refine below_set ?_ GE416.out | refine below_set ?_ GE417.out | refine below_set ?_ GE422.out | refine below_set ?_ GE426.out | refine below_set ?_ GE430.out) | exact HB.out)⟩⟩
        ·rw [if_neg c63] at H
         have c63b0 : decide (t433 ≤ 0) = false := decide_eq_false c63
         clear c63
         by_cases c64 : t431 = 0
         ·rw [if_pos c64] at H
          have c64b0 : (t431 == 0) = true := beq_iff_eq.mpr c64
          have c64b1 : (t431 != 0) = false := bne_eq_false_iff_eq.mpr c64
          clear c64
          have H' := A0 H
          clear H
          go_wp2
          go_meet
          case rel => exact ⟨_, ((t433 != t432)), (by first | rfl | (simp; done) | (simp [*]; done)), H', ⟨by first | omega | exact Nat.le_refl _⟩, ⟨zz BK415⟩, ⟨zz BK416⟩, ⟨zz BK417⟩, ⟨zz BK422⟩, ⟨zz BK426⟩, ⟨zz BK430⟩, ⟨by repeat (first | (with_reducible first | exact HB.out | apply below_alloc | apply pw_below_drewN | apply below_drew1 | refine below_set ?_ GE415.out | refine below_set ?_ GE416.out | refine below_set ?_ GE417.out | refine below_set ?_ GE422.out | refine below_set ?_ GE426.out | refine below_set ?_ GE430.out) | exact HB.out)⟩⟩
         ·rw [if_neg c64] at H
          have c64b0 : (t431 == 0) = false := beq_eq_false_iff_ne.mpr c64
          have c64b1 : (t431 != 0) = true := bne_iff_ne.mpr c64
          have H' := A0 H
          clear H
          go_wp2
          go_meet
          case rel => exact ⟨_, (false), (by first | rfl | (simp; done) | (simp [*]; done)), H', ⟨by first | omega | exact Nat.le_refl _⟩, ⟨zz BK415⟩, ⟨zz BK416⟩, ⟨zz BK417⟩, ⟨zz BK422⟩, ⟨zz BK426⟩, ⟨zz BK430⟩, ⟨by repeat (first | (with_reducible first | exact HB.out | apply below_alloc | apply pw_below_drewN | apply below_drew1 | refine below_set ?_ GE415.out | refine below_set ?_ GE416.out | refine below_set ?_ GE417.out | refine below_set ?_ GE422.out | refine below_set ?_ GE426.out | refine below_set ?_ GE430.out) | exact HB.out)⟩⟩
       ·rw [if_neg c62] at H
        have c62b0 : decide (0 < t432) = false := decide_eq_false c62
        clear c62
        by_cases c65 : t431 = 0
        ·rw [if_pos c65] at H
         have c65b0 : (t431 == 0) = true := beq_iff_eq.mpr c65
         have c65b1 : (t431 != 0) = false := bne_eq_false_iff_eq.mpr c65
         clear c65
         have H' := A0 H
         clear H
         go_wp2
         go_meet
         case rel => exact ⟨_, ((t433 != t432)), (by first | rfl | (simp; done) | (simp [*]; done)), H', ⟨by first | omega | exact Nat.le_refl _⟩, ⟨zz BK415⟩, ⟨zz BK416⟩, ⟨zz BK417⟩, ⟨zz BK422⟩, ⟨zz BK426⟩, ⟨zz BK430⟩, ⟨by repeat (first | (with_reducible first | exact HB.out | apply below_alloc | apply pw_below_drewN | apply below_drew1 | refine below_set ?_ GE415.out | refine below_set ?_ GE416.out | refine below_set ?_ GE417.out | refine below_set ?_ GE422.out | refine below_set ?_ GE426.out | refine below_set ?_ GE430.out) | exact HB.out)⟩⟩
        ·rw [if_neg c65] at H
         have c65b0 : (t431 == 0) = false := beq_eq_false_iff_ne.mpr c65
         have c65b1 : (t431 != 0) = true := bne_iff_ne.mpr c65
         have H' := A0 H
         clear H
         go_wp2
         go_meet
         case rel => exact ⟨_, (false), (by first | rfl | (simp; done) | (simp [*]; done)), H', ⟨by first | omega | exact Nat.le_refl _⟩, ⟨zz BK415⟩, ⟨zz BK416⟩, ⟨zz BK417⟩, ⟨zz BK422⟩, ⟨zz BK426⟩, ⟨zz BK430⟩, ⟨by repeat (first | (with_reducible first | exact HB.out | apply below_alloc | apply pw_below_drewN | apply below_drew1 | refine below_set ?_ GE415.out | refine below_set ?_ GE416.out | refine below_set ?_ GE417.out | refine below_set ?_ GE422.out | refine below_set ?_ GE426.out | refine below_set ?_ GE430.out) | exact HB.out)⟩⟩
      ·rw [if_neg c61] at H
       have c61b0 : decide (0 < t431) = false := decide_eq_false c61
       clear c61
       by_cases c66 : t431 = 0
       ·rw [if_pos c66] at H
        have c66b0 : (t431 == 0) = true := beq_iff_eq.mpr c66
        have c66b1 : (t431 != 0) = false := bne_eq_false_iff_eq.mpr c66
        clear c66
        have H' := A0 H
        clear H
        go_wp2
        go_meet
        case rel => exact ⟨_, ((t433 != t432)), (by first | rfl | (simp; done) | (simp [*]; done)), H', ⟨by first | omega | exact Nat.le_refl _⟩, ⟨zz BK415⟩, ⟨zz BK416⟩, ⟨zz BK417⟩, ⟨zz BK422⟩, ⟨zz BK426⟩, ⟨zz BK430⟩, ⟨by repeat (first | (with_reducible first | exact HB.out | apply below_alloc | apply pw_below_drewN | apply below_drew1 | refine below_set ?_ GE415.out | refine below_set ?_ GE416.out | refine below_set ?_ GE417.out | refine below_set ?_ GE422.out | refine below_set ?_ GE426.out | refine below_set ?_ GE430.out) | exact HB.out)⟩⟩
       ·rw [if_neg c66] at H
        have c66b0 : (t431 == 0) = false := beq_eq_false_iff_ne.mpr c66
        have c66b1 : (t431 != 0) = true := bne_iff_ne.mpr c66
        have H' := A0 H
        clear H
        go_wp2
        go_meet
        case rel => exact ⟨_, (false), (by first | rfl | (simp; done) | (simp [*]; done)), H', ⟨by first | omega | exact Nat.le_refl _⟩, ⟨zz BK415⟩, ⟨zz BK416⟩, ⟨zz BK417⟩, ⟨zz BK422⟩, ⟨zz BK426⟩, ⟨zz BK430⟩, ⟨by repeat (first | (with_reducible first | exact HB.out | apply below_alloc | apply pw_below_drewN | apply below_drew1 | refine below_set ?_ GE415.out | refine below_set ?_ GE416.out | refine below_set ?_ GE417.out | refine below_set ?_ GE422.out | refine below_set ?_ GE426.out | refine below_set ?_ GE430.out) | exact HB.out)⟩⟩
    ·rw [if_neg c59] at H
     have c59b0 : decide (t432 < 0) = false := decide_eq_false c59
     clear c59
     by_cases c67 : t431 > 0
     ·rw [if_pos c67] at H
      have c67b0 : decide (0 < t431) = true := decide_eq_true c67
      clear c67
      by_cases c68 : t432 > 0
      ·rw [if_pos c68] at H
       have c68b0 : decide (0 < t432) = true := decide_eq_true c68
       clear c68
       by_cases c69 : t433 ≤ 0
       ·rw [if_pos c69] at H
        have c69b0 : decide (t433 ≤ 0) = true := decide_eq_true c69
        clear c69
        have H' := A0 H
        clear H
        go_wp2
        go_meet
        case rel => exact ⟨_, (true), (by first | rfl | (simp; done) | (simp [*]; done)), H', ⟨by first | omega | exact Nat.le_refl _⟩, ⟨zz BK415⟩, ⟨zz BK416⟩, ⟨zz BK417⟩, ⟨zz BK422⟩, ⟨zz BK426⟩, ⟨zz BK430⟩, ⟨by repeat (first | (with_reducible first | exact HB.out | apply below_alloc | apply pw_below_drewN | apply below_drew1 | refine below_set ?_ GE415.out | refine below_set ?_ GE416.out | refine below_set ?_ GE417.out | refine below_set ?_ GE422.out | refine below_set ?_ GE426.out | refine below_set ?_ GE430.out) | exact HB.out)⟩⟩
       ·rw [if_neg c69] at H
        have c69b0 : decide (t433 ≤ 0) = false := decide_eq_false c69
        clear c69
        by_cases c70 : t431 = 0
        ·rw [if_pos c70] at H
         have c70b0 : (t431 == 0) = true := beq_iff_eq.mpr c70
         have c70b1 : (t431 != 0) = false := bne_eq_false_iff_eq.mpr c70
         clear c70
         have H' := A0 H
         clear H
         go_wp2
         go_meet
         case rel => exact ⟨_, ((t433 != t432)), (by first | rfl | (simp; done) | (simp [*]; done)), H', ⟨by first | omega | exact Nat.le_refl _⟩, ⟨zz BK415⟩, ⟨zz BK416⟩, ⟨zz BK417⟩, ⟨zz BK422⟩, ⟨zz BK426⟩, ⟨zz BK430⟩, ⟨by repeat (first | (with_reducible first | exact HB.out | apply below_alloc | apply pw_below_drewN | apply below_drew1 | refine below_set ?_ GE415.out | refine below_set ?_ GE416.out | refine below_set ?_ GE417.out | refine below_set ?_ GE422.out | refine below_set ?_ GE426.out | refine below_set ?_ GE430.out) | exact HB.out)⟩⟩
        ·rw [if_neg c70] at H
         have c70b0 : (t431 == 0) = false := beq_eq_false_iff_ne.mpr c70
         have c70b1 : (t431 != 0) = true := bne_iff_ne.mpr c70
         have H' := A0 H
         clear H
         go_wp2
         go_meet
         case rel => exact ⟨_, (false), (by first | rfl | (simp; done) | (simp [*]; done)), H', ⟨by first | omega | exact Nat.le_refl _⟩, ⟨zz BK415⟩, ⟨zz BK416⟩, ⟨zz BK417⟩, ⟨zz BK422⟩, ⟨zz BK426⟩, ⟨zz BK430⟩, ⟨by repeat (first | (with_reducible first | exact HB.out | apply below_alloc | apply pw_below_drewN | apply below_drew1 | refine below_set ?_ GE415.out | refine below_set ?_ GE416.out | refine below_set ?_ GE417.out | refine below_set ?_ GE422.out | refine below_set ?_ GE426.out | refine below_set ?_ GE430.out) | exact HB.out)⟩⟩
      ·rw [if_neg c68] at H
       have c68b0 : decide (0 < t432) = false := decide_eq_false c68
       clear c68
       by_cases c71 : t431 = 0
       ·rw [if_pos c71] at H
        have c71b0 : (t431 == 0) = true := beq_iff_eq.mpr c71
        have c71b1 : (t431 != 0) = false := bne_eq_false_iff_eq.mpr c71
        clear c71
        have H' := A0 H
        clear H
        go_wp2
        go_meet
        case rel => exact ⟨_, ((t433 != t432)), (by first | rfl | (simp; done) | (simp [*]; done)), H', ⟨by first | omega | exact Nat.le_refl _⟩, ⟨zz BK415⟩, ⟨zz BK416⟩, ⟨zz BK417⟩, ⟨zz BK422⟩, ⟨zz BK426⟩, ⟨zz BK430⟩, ⟨by repeat (first | (with_reducible first | exact HB.out | apply below_alloc | apply pw_below_drewN | apply below_drew1 | refine below_set ?_ GE415.out | refine below_set ?_ GE416.out | refine below_set ?_ GE417.out | refine below_set ?_ GE422.out | refine below_set ?_ GE426.out | refine below_set ?_ GE430.out) | exact HB.out)⟩⟩
       ·rw [if_neg c71] at H
        have c71b0 : (t431 == 0) = false := beq_eq_false_iff_ne.mpr c71
        have c71b1 : (t431 != 0) = true := bne_iff_ne.mpr c71
        have H' := A0 H
        clear H
        go_wp2
        go_meet
        case rel => exact ⟨_, (false), (by first | rfl | (simp; done) | (simp [*]; done)), H', ⟨by first | omega | exact Nat.le_refl _⟩, ⟨zz BK415⟩, ⟨zz BK416⟩, ⟨zz BK417⟩, ⟨zz BK422⟩, ⟨zz BK426⟩, ⟨zz BK430⟩, ⟨by repeat (first | (with_reducible first | exact HB.out | apply below_alloc | apply pw_below_drewN | apply below_drew1 | refine below_set ?_ GE415.out | refine below_set ?_ GE416.out | refine below_set ?_ GE417.out | refine below_set ?_ GE422.out | refine below_set ?_ GE426.out | refine below_set ?_ GE430.out) | exact HB.out)⟩⟩
     ·rw [if_neg c67] at H
      have c67b0 : decide (0 < t431) = false := decide_eq_false c67
      clear c67
      by_cases c72 : t431 = 0
      ·rw [if_pos c72] at H
       have c72b0 : (t431 == 0) = true := beq_iff_eq.mpr c72
       have c72b1 : (t431 != 0) = false := bne_eq_false_iff_eq.mpr c72
       clear c72
       have H' := A0 H
       clear H
       go_wp2
       go_meet
       case rel => exact ⟨_, ((t433 != t432)), (by first | rfl | (simp; done) | (simp [*]; done)), H', ⟨by first | omega | exact Nat.le_refl _⟩, ⟨zz BK415⟩, ⟨zz BK416⟩, ⟨zz BK417⟩, ⟨zz BK422⟩, ⟨zz BK426⟩, ⟨zz BK430⟩, ⟨by repeat (first | (with_reducible first | exact HB.out | apply below_alloc | apply pw_below_drewN | apply below_drew1 | refine below_set ?_ GE415.out | refine below_set ?_ GE416.out | refine below_set ?_ GE417.out | refine below_set ?_ GE422.out | refine below_set ?_ GE426.out | refine below_set ?_ GE430.out) | exact HB.out)⟩⟩
      ·rw [if_neg c72] at H
       have c72b0 : (t431 == 0) = false := beq_eq_false_iff_ne.mpr c72
       have c72b1 : (t431 != 0) = true := bne_iff_ne.mpr c72
       have H' := A0 H
       clear H
       go_wp2
       go_meet
       case rel => exact ⟨_, (false), (by first | rfl | (simp; done) | (simp [*]; done)), H', ⟨by first | omega | exact Nat.le_refl _⟩, ⟨zz BK415⟩, ⟨zz BK416⟩, ⟨zz BK417⟩, ⟨zz BK422⟩, ⟨zz BK426⟩, ⟨zz BK430⟩, ⟨by repeat (first | (with_reducible first | exact HB.out | apply below_alloc | apply pw_below_drewN | apply below_drew1 | refine below_set ?_ GE415.out | refine below_set ?_ GE416.out | refine below_set ?_ GE417.out | refine below_set ?_ GE422.out | refine below_set ?_ GE426.out | refine below_set ?_ GE430.out) | exact HB.out)⟩⟩
   ·rw [if_neg c58] at H
    have c58b0 : decide (t431 < 0) = false := decide_eq_false c58
    clear c58
    (first | rw [c58b0] | (simp only [i64_w, i32_w]; rw [c58b0]) | skip)
    by_cases c73 : t431 > 0
    ·rw [if_pos c73] at H
     have c73b0 : decide (0 < t431) = true := decide_eq_true c73
     clear c73
     by_cases c74 : t432 > 0
     ·rw [if_pos c74] at H
      have c74b0 : decide (0 < t432) = true := decide_eq_true c74
      clear c74
      by_cases c75 : t433 ≤ 0
      ·rw [if_pos c75] at H
       have c75b0 : decide (t433 ≤ 0) = true := decide_eq_true c75
       clear c75
       have H' := A0 H
       clear H
       go_wp2
       go_meet
       case rel => exact ⟨_, (true), (by first | rfl | (simp; done) | (simp [*]; done)), H', ⟨by first | omega | exact Nat.le_refl _⟩, ⟨zz BK415⟩, ⟨zz BK416⟩, ⟨zz BK417⟩, ⟨zz BK422⟩, ⟨zz BK426⟩, ⟨zz BK430⟩, ⟨by repeat (first | (with_reducible first | exact HB.out | apply below_alloc | apply pw_below_drewN | apply below_drew1 | refine below_set ?_ GE415.out | refine below_set ?_ GE416.out | refine below_set ?_ GE417.out | refine below_set ?_ GE422.out | refine below_set ?_ GE426.out | refine below_set ?_ GE430.out) | exact HB.out)⟩⟩
      ·rw [if_neg c75] at H
       have c75b0 : decide (t433 ≤ 0) = false := decide_eq_false c75
       clear c75
       by_cases c76 : t431 = 0
       ·rw [if_pos c76] at H
        have c76b0 : (t431 == 0) = true := beq_iff_eq.mpr c76
        have c76b1 : (t431 != 0) = false := bne_eq_false_iff_eq.mpr c76
        clear c76
        have H' := A0 H
        clear H
        go_wp2
        go_meet
        case rel => exact ⟨_, ((t433 != t432)), (by first | rfl | (simp; done) | (simp [*]; done)), H', ⟨by first | omega | exact Nat.le_refl _⟩, ⟨zz BK415⟩, ⟨zz BK416⟩, ⟨zz BK417⟩, ⟨zz BK422⟩, ⟨zz BK426⟩, ⟨zz BK430⟩, ⟨by repeat (first | (with_reducible first | exact HB.out | apply below_alloc | apply pw_below_drewN | apply below_drew1 | refine below_set ?_ GE415.out | refine below_set ?_ GE416.out | refine below_set ?_ GE417.out | refine below_set ?_ GE422.out | refine below_set ?_ GE426.out | refine below_set ?_ GE430.out) | exact HB.out)⟩⟩
       ·rw [if_neg c76] at H
        have c76b0 : (t431 == 0) = false := beq_eq_false_iff_ne.mpr c76
        have c76b1 : (t431 != 0) = true := bne_iff_ne.mpr c76
        have H' := A0 H
        clear H
        go_wp2
        go_meet
        case rel => exact ⟨_, (false), (by first | rfl | (simp; done) | (simp [*]; done)), H', ⟨by first | omega | exact Nat.le_refl _⟩, ⟨zz BK415⟩, ⟨zz BK416⟩, ⟨zz BK417⟩, ⟨zz BK422⟩, ⟨zz BK426⟩, ⟨zz BK430⟩, ⟨by repeat (first | (with_reducible first | exact HB.out | apply below_alloc | apply pw_below_drewN | apply below_drew1 | refine below_set ?_ GE415.out | refine below_set ?_ GE416.out | refine below_set ?_ GE417.out | refine below_set ?_ GE422.out | refine below_set ?_ GE426.out | refine below_set ?_ GE430.out) | exact HB.out)⟩⟩
     ·rw [if_neg c74] at H
      have c74b0 : decide (0 < t432) = false := decide_eq_false c74
      clear c74
      by_cases c77 : t431 = 0
      ·rw [if_pos c77] at H
       have c77b0 : (t431 == 0) = true := beq_iff_eq.mpr c77
       have c77b1 : (t431 != 0) = false := bne_eq_false_iff_eq.mpr c77
       clear c77
       have H' := A0 H
       clear H
       go_wp2
       go_meet
       case rel => exact ⟨_, ((t433 != t432)), (by first | rfl | (simp; done) | (simp [*]; done)), H', ⟨by first | omega | exact Nat.le_refl _⟩, ⟨zz BK415⟩, ⟨zz BK416⟩, ⟨zz BK417⟩, ⟨zz BK422⟩, ⟨zz BK426⟩, ⟨zz BK430⟩, ⟨by repeat (first | (with_reducible first | exact HB.out | apply below_alloc | apply pw_below_drewN | apply below_drew1 | refine below_set ?_ GE415.out | refine below_set ?_ GE416.out | refine below_set ?_ GE417.out | refine below_set ?_ GE422.out | refine below_set ?_ GE426.out | refine below_set ?_ GE430.out) | exact HB.out)⟩⟩
      ·rw [if_neg c77] at H
       have c77b0 : (t431 == 0) = false := beq_eq_false_iff_ne.mpr c77
       have c77b1 : (t431 != 0) = true := bne_iff_ne.mpr c77
       have H' := A0 H
       clear H
       go_wp2
       go_meet
       case rel => exact ⟨_, (false), (by first | rfl | (simp; done) | (simp [*]; done)), H', ⟨by first | omega | exact Nat.le_refl _⟩, ⟨zz BK415⟩, ⟨zz BK416⟩, ⟨zz BK417⟩, ⟨zz BK422⟩, ⟨zz BK426⟩, ⟨zz BK430⟩, ⟨by repeat (first | (with_reducible first | exact HB.out | apply below_alloc | apply pw_below_drewN | apply below_drew1 | refine below_set ?_ GE415.out | refine below_set ?_ GE416.out | refine below_set ?_ GE417.out | refine below_set ?_ GE422.out | refine below_set ?_ GE426.out | refine below_set ?_ GE430.out) | exact HB.out)⟩⟩
    ·rw [if_neg c73] at H
     have c73b0 : decide (0 < t431) = false := decide_eq_false c73
     clear c73
     by_cases c78 : t431 = 0
     ·rw [if_pos c78] at H
      have c78b0 : (t431 == 0) = true := beq_iff_eq.mpr c78
      have c78b1 : (t431 != 0) = false := bne_eq_false_iff_eq.mpr c78
      clear c78
      have H' := A0 H
      clear H
      go_wp2
      go_meet
      case rel => exact ⟨_, ((t433 != t432)), (by first | rfl | (simp; done) | (simp [*]; done)), H', ⟨by first | omega | exact Nat.le_refl _⟩, ⟨zz BK415⟩, ⟨zz BK416⟩, ⟨zz BK417⟩, ⟨zz BK422⟩, ⟨zz BK426⟩, ⟨zz BK430⟩, ⟨by repeat (first | (with_reducible first | exact HB.out | apply below_alloc | apply pw_below_drewN | apply below_drew1 | refine below_set ?_ GE415.out | refine below_set ?_ GE416.out | refine below_set ?_ GE417.out | refine below_set ?_ GE422.out | refine below_set ?_ GE426.out | refine below_set ?_ GE430.out) | exact HB.out)⟩⟩
     ·rw [if_neg c78] at H
      have c78b0 : (t431 == 0) = false := beq_eq_false_iff_ne.mpr c78
      have c78b1 : (t431 != 0) = true := bne_iff_ne.mpr c78
      have H' := A0 H
      clear H
      go_wp2
      go_meet
      case rel => exact ⟨_, (false), (by first | rfl | (simp; done) | (simp [*]; done)), H', ⟨by first | omega | exact Nat.le_refl _⟩, ⟨zz BK415⟩, ⟨zz BK416⟩, ⟨zz BK417⟩, ⟨zz BK422⟩, ⟨zz BK426⟩, ⟨zz BK430⟩, ⟨by repeat (first | (with_reducible first | exact HB.out | apply below_alloc | apply pw_below_drewN | apply below_drew1 | refine below_set ?_ GE415.out | refine below_set ?_ GE416.out | refine below_set ?_ GE417.out | refine below_set ?_ GE422.out | refine below_set ?_ GE426.out | refine below_set ?_ GE430.out) | exact HB.out)⟩⟩
  case rest =>
   clear HC13
   try clear c1
   try clear c2
   try clear p2
   try clear c3
   try clear c4
   try clear c5
   try clear c6
   try clear c7
   try clear c8
   try clear c12
   try clear c13
   try clear c14
   try clear c18
   try clear c19
   try clear c23
   try clear c24
   try clear c25
   try clear c27
   try clear c31
   try clear c32
   try clear c33
   try clear c34
   try clear c39
   try clear c40
   try clear c41
   try clear c42
   try clear c43
   try clear c58
   try clear c58b0
   try clear c59
   try clear c59b0
   try clear c60
   try clear c60b0
   try clear c61
   try clear c61b0
   try clear c62
   try clear c62b0
   try clear c63
   try clear c63b0
   try clear c64
   try clear c64b0
   try clear c64b1
   try clear c65
   try clear c65b0
   try clear c65b1
   try clear c66
   try clear c66b0
   try clear c66b1
   try clear c67
   try clear c67b0
   try clear c68
   try clear c68b0
   try clear c69
   try clear c69b0
   try clear c70
   try clear c70b0
   try clear c70b1
   try clear c71
   try clear c71b0
   try clear c71b1
   try clear c72
   try clear c72b0
   try clear c72b1
   try clear c73
   try clear c73b0
   try clear c74
   try clear c74b0
   try clear c75
   try clear c75b0
   try clear c76
   try clear c76b0
   try clear c76b1
   try clear c77
   try clear c77b0
   try clear c77b1
   try clear c78
   try clear c78b0
   try clear c78b1
   try clear hcz20_0
   try clear hcz20_1
   try clear hcz20_2
   try clear hcz26_0
   try clear hcz26_1
   try clear hcz26_2
   try clear hcz28_0
   try clear hcz28_1
   try clear hcz28_2
   try clear hcz35_0
   try clear hcz35_1
   try clear hcz35_2
   try clear hcz36_0
   try clear hcz36_1
   try clear hcz36_2
   try clear hcz44_0
   try clear hcz44_1
   try clear hcz44_2
   try clear hcz45_0
   try clear hcz45_1
   try clear hcz45_2
   try clear hcz46_0
   try clear hcz46_1
   try clear hcz46_2
   try clear hcz48_0
   try clear hcz48_1
   try clear hcz48_2
   try clear hcz49_0
   try clear hcz49_1
   try clear hcz49_2
   try clear hcz51_0
   try clear hcz51_1
   try clear hcz51_2
   try clear hcz52_0
   try clear hcz52_1
   try clear hcz52_2
   try clear hcz54_0
   try clear hcz54_1
   try clear hcz54_2
   try clear hcz56_0
   try clear hcz56_1
   try clear hcz56_2
   try clear hfz20_0
   try clear hfz20_1
   try clear hfz20_2
   try clear hfz26_0
   try clear hfz26_1
   try clear hfz26_2
   try clear hfz28_0
   try clear hfz28_1
   try clear hfz28_2
   try clear hfz35_0
   try clear hfz35_1
   try clear hfz35_2
   try clear hfz36_0
   try clear hfz36_1
   try clear hfz36_2
   try clear hfz44_0
   try clear hfz44_1
   try clear hfz44_2
   try clear hfz45_0
   try clear hfz45_1
   try clear hfz45_2
   try clear hfz46_0
   try clear hfz46_1
   try clear hfz46_2
   try clear hfz48_0
   try clear hfz48_1
   try clear hfz48_2
   try clear hfz49_0
   try clear hfz49_1
   try clear hfz49_2
   try clear hfz51_0
   try clear hfz51_1
   try clear hfz51_2
   try clear hfz52_0
   try clear hfz52_1
   try clear hfz52_2
   try clear hfz54_0
   try clear hfz54_1
   try clear hfz54_2
   try clear hfz56_0
   try clear hfz56_1
   try clear hfz56_2
   obtain ⟨kq, x74_12, rfl, HA, HJ12, BK415, BK416, BK417, BK422, BK426, BK430, HB⟩ := hcut
   cases kq with
   | zero => exact absurd HA.out (by simp [partitalaw02_PitchOrder.j0])
   | succ kj12 =>
    have H := HA.out
    clear HA
    simp only [partitalaw02_PitchOrder.j0] at H
    by_cases c79 : x74_12 = true
    ·subst c79
     have H1 : (some false) = some r := by rw [if_pos rfl] at H; exact H
     clear H; have H := H1; clear H1
     exact absurd H (by rw [HR_.out]; simp)
    ·replace c79 := Bool.eq_false_iff.mpr c79
     subst c79
     have H1 : (if t418 = true then (if t435 = 0 then (if t437 = 0 then ((pitch_Compare.f kj12 t423 t424 t425 t419 t420 t421).bind fun t438 => (if t438 = (wrap64 (-t431)) then (if ((t431 == 0) == (t419 == t423 && (t420 == t424 && (t421 == t425)))) = true then (if t431 ≥ (-1) then (if t431 ≤ 1 then (if t434 = t436 then (partitalaw02_PitchOrder.j1 kj12 true) else (partitalaw02_PitchOrder.j1 kj12 ((decide (t434 < t436)) == (decide (t431 < 0))))) else (partitalaw02_PitchOrder.j1 kj12 false)) else (partitalaw02_PitchOrder.j1 kj12 false)) else (partitalaw02_PitchOrder.j1 kj12 false)) else (partitalaw02_PitchOrder.j1 kj12 false))) else (partitalaw02_PitchOrder.j1 kj12 false)) else (partitalaw02_PitchOrder.j1 kj12 false)) else (partitalaw02_PitchOrder.j1 kj12 false)) = some r := by rw [if_neg (show ¬ (false = true) by decide)] at H; exact H
     clear H; have H := H1; clear H1
     have HC80 := A0 H
     clear H
     go_upto_region 12 with (fail)
     go_cut [6] (fun v6 wc => ∃ (kq : Nat) (x6_79 : Bool), v6 = .bool x6_79 ∧ Aside0 (partitalaw02_PitchOrder.j1 kq x6_79 = some r) ∧ Aside0 (kq ≤ kj12) ∧ Aside0 (wc.heap[gb415]? = some (.cells #[.int .i64 a0_0, .int .i64 a0_1, .int .i64 a0_2] 23 (0, 0))) ∧ Aside0 (wc.heap[gb416]? = some (.cells #[.int .i64 a1_0, .int .i64 a1_1, .int .i64 a1_2] 23 (0, 0))) ∧ Aside0 (wc.heap[gb417]? = some (.cells #[.int .i64 a2_0, .int .i64 a2_1, .int .i64 a2_2] 23 (0, 0))) ∧ Aside0 (wc.heap[gb422]? = some (.cells #[.int .i64 t419, .int .i64 t420, .int .i64 t421] 23 (0, 0))) ∧ Aside0 (wc.heap[gb426]? = some (.cells #[.int .i64 t423, .int .i64 t424, .int .i64 t425] 23 (0, 0))) ∧ Aside0 (wc.heap[gb430]? = some (.cells #[.int .i64 t427, .int .i64 t428, .int .i64 t429] 23 (0, 0))) ∧ Aside0 (Below w.heap.size w wc))
     case first =>
      have H := HC80.out
      clear HC80
      by_cases c81 : t418 = true
      ·subst c81
       have H1 : (if t435 = 0 then (if t437 = 0 then ((pitch_Compare.f kj12 t423 t424 t425 t419 t420 t421).bind fun t438 => (if t438 = (wrap64 (-t431)) then (if ((t431 == 0) == (t419 == t423 && (t420 == t424 && (t421 == t425)))) = true then (if t431 ≥ (-1) then (if t431 ≤ 1 then (if t434 = t436 then (partitalaw02_PitchOrder.j1 kj12 true) else (partitalaw02_PitchOrder.j1 kj12 ((decide (t434 < t436)) == (decide (t431 < 0))))) else (partitalaw02_PitchOrder.j1 kj12 false)) else (partitalaw02_PitchOrder.j1 kj12 false)) else (partitalaw02_PitchOrder.j1 kj12 false)) else (partitalaw02_PitchOrder.j1 kj12 false))) else (partitalaw02_PitchOrder.j1 kj12 false)) else (partitalaw02_PitchOrder.j1 kj12 false)) = some r := by rw [if_pos rfl] at H; exact H
       clear H; have H := H1; clear H1
       by_cases c82 : t435 = 0
       ·rw [if_pos c82] at H
        have c82b0 : (t435 == 0) = true := beq_iff_eq.mpr c82
        have c82b1 : (t435 != 0) = false := bne_eq_false_iff_eq.mpr c82
        clear c82
        (first | rw [c82b0] | (simp only [i64_w, i32_w]; rw [c82b0]) | skip)
        by_cases c83 : t437 = 0
        ·rw [if_pos c83] at H
         have c83b0 : (t437 == 0) = true := beq_iff_eq.mpr c83
         have c83b1 : (t437 != 0) = false := bne_eq_false_iff_eq.mpr c83
         clear c83
         replace H := Option.bind_eq_some_iff.mp H
         obtain ⟨t438, A840, H⟩ := H; replace H : (if t438 = (wrap64 (-t431)) then (if ((t431 == 0) == (t419 == t423 && (t420 == t424 && (t421 == t425)))) = true then (if t431 ≥ (-1) then (if t431 ≤ 1 then (if t434 = t436 then (partitalaw02_PitchOrder.j1 kj12 true) else (partitalaw02_PitchOrder.j1 kj12 ((decide (t434 < t436)) == (decide (t431 < 0))))) else (partitalaw02_PitchOrder.j1 kj12 false)) else (partitalaw02_PitchOrder.j1 kj12 false)) else (partitalaw02_PitchOrder.j1 kj12 false)) else (partitalaw02_PitchOrder.j1 kj12 false)) = some r := H; have A84 := A0 A840; clear A840
         by_cases c85 : t438 = (wrap64 (-t431))
         ·rw [if_pos c85] at H
          have c85b0 : (t438 == (wrap64 (-t431))) = true := beq_iff_eq.mpr c85
          have c85b1 : (t438 != (wrap64 (-t431))) = false := bne_eq_false_iff_eq.mpr c85
          clear c85
          by_cases c86 : ((t431 == 0) == (t419 == t423 && (t420 == t424 && (t421 == t425)))) = true
          ·rw [if_pos c86] at H
           have c86b0 : ((t431 == 0) == (t419 == t423 && (t420 == t424 && (t421 == t425)))) = true := c86
           (try (have c86b1 : decide ((t431 == 0) = (t419 == t423 && (t420 == t424 && (t421 == t425)))) = true := by simpa using c86))
           (try (have c86b2 : ((t431 == 0) == (t419 == t423 && (t420 == t424 && (t421 == t425)))) = true := by simpa using c86))
           clear c86
           by_cases c87 : t431 ≥ (-1)
           ·rw [if_pos c87] at H
            have c87b0 : decide ((-1) ≤ t431) = true := decide_eq_true c87
            clear c87
            by_cases c88 : t431 ≤ 1
            ·rw [if_pos c88] at H
             have c88b0 : decide (t431 ≤ 1) = true := decide_eq_true c88
             clear c88
             by_cases c89 : t434 = t436
             ·rw [if_pos c89] at H
              have c89b0 : (t434 == t436) = true := beq_iff_eq.mpr c89
              have c89b1 : (t434 != t436) = false := bne_eq_false_iff_eq.mpr c89
              clear c89
              have H' := A0 H
              clear H
              have hnb90 := NB426_415.out
              have hnc90 := NB415_426.out
              have hnb91 := NB426_416.out
              have hnc91 := NB416_426.out
              have hnb92 := NB426_417.out
              have hnc92 := NB417_426.out
              have hnb93 := NB426_422.out
              have hnc93 := NB422_426.out
              have hnb94 := NB426_430.out
              have hnc94 := NB430_426.out
              have hcz95_0 : wc.cell? ⟨gb426, 0, none⟩ = some (.int .i64 t423) := (blk_cell BK426.out 0).trans rfl
              have hcz95_1 : wc.cell? ⟨gb426, 1, none⟩ = some (.int .i64 t424) := (blk_cell BK426.out 1).trans rfl
              have hcz95_2 : wc.cell? ⟨gb426, 2, none⟩ = some (.int .i64 t425) := (blk_cell BK426.out 2).trans rfl
              have hfz95_0 := blk_frozen BK426.out 0
              have hfz95_1 := blk_frozen BK426.out 1
              have hfz95_2 := blk_frozen BK426.out 2
              have hnb96 := NB422_415.out
              have hnc96 := NB415_422.out
              have hnb97 := NB422_416.out
              have hnc97 := NB416_422.out
              have hnb98 := NB422_417.out
              have hnc98 := NB417_422.out
              have hnb99 := NB422_430.out
              have hnc99 := NB430_422.out
              have hcz100_0 : wc.cell? ⟨gb422, 0, none⟩ = some (.int .i64 t419) := (blk_cell BK422.out 0).trans rfl
              have hcz100_1 : wc.cell? ⟨gb422, 1, none⟩ = some (.int .i64 t420) := (blk_cell BK422.out 1).trans rfl
              have hcz100_2 : wc.cell? ⟨gb422, 2, none⟩ = some (.int .i64 t421) := (blk_cell BK422.out 2).trans rfl
              have hfz100_0 := blk_frozen BK422.out 0
              have hfz100_1 := blk_frozen BK422.out 1
              have hfz100_2 := blk_frozen BK422.out 2
              go_wp2_with (first | (go_at_call 27; (with_reducible refine (pitch_Compare.calls kj12 t423 t424 t425 t419 t420 t421 t438 _ ?side1 A84.out).mono ?_); (case side1 => exact GW.step HG_.out (by repeat (first | (with_reducible first | exact HB.out | apply below_alloc | apply pw_below_drewN | apply below_drew1 | refine below_set ?_ GE415.out | refine below_set ?_ GE416.out | refine below_set ?_ GE417.out | refine below_set ?_ GE422.out | refine below_set ?_ GE426.out | refine below_set ?_ GE430.out) | exact HB.out))); rintro e w101 ⟨rfl, hb⟩; have n0_ := A0 (blk_below (zz BK415) hb); have n1_ := A0 (blk_below (zz BK416) hb); have n2_ := A0 (blk_below (zz BK417) hb); have n3_ := A0 (blk_below (zz BK422) hb); have n4_ := A0 (blk_below (zz BK426) hb); have n5_ := A0 (blk_below (zz BK430) hb); have n6_ := A0 (below_step ww hb); clear BK415; clear BK416; clear BK417; clear BK422; clear BK426; clear BK430; clear HB; have BK415 := n0_; have BK416 := n1_; have BK417 := n2_; have BK422 := n3_; have BK426 := n4_; have BK430 := n5_; have HB := n6_; clear n0_ n1_ n2_ n3_ n4_ n5_ n6_; (try clear hb); have hcz102_0 : w101.cell? ⟨gb422, 0, none⟩ = some (.int .i64 t419) := (blk_cell BK422.out 0).trans rfl; have hcz102_1 : w101.cell? ⟨gb422, 1, none⟩ = some (.int .i64 t420) := (blk_cell BK422.out 1).trans rfl; have hcz102_2 : w101.cell? ⟨gb422, 2, none⟩ = some (.int .i64 t421) := (blk_cell BK422.out 2).trans rfl; have hfz102_0 := blk_frozen BK422.out 0; have hfz102_1 := blk_frozen BK422.out 1; have hfz102_2 := blk_frozen BK422.out 2; have hcz103_0 : w101.cell? ⟨gb426, 0, none⟩ = some (.int .i64 t423) := (blk_cell BK426.out 0).trans rfl; have hcz103_1 : w101.cell? ⟨gb426, 1, none⟩ = some (.int .i64 t424) := (blk_cell BK426.out 1).trans rfl; have hcz103_2 : w101.cell? ⟨gb426, 2, none⟩ = some (.int .i64 t425) := (blk_cell BK426.out 2).trans rfl; have hfz103_0 := blk_frozen BK426.out 0; have hfz103_1 := blk_frozen BK426.out 1; have hfz103_2 := blk_frozen BK426.out 2))
              go_meet
              case rel => exact ⟨_, (true), (by first | rfl | (simp; done) | (simp [*]; done)), H', ⟨by have := HJ12.out; first | omega | exact Nat.le_refl _⟩, ⟨zz BK415⟩, ⟨zz BK416⟩, ⟨zz BK417⟩, ⟨zz BK422⟩, ⟨zz BK426⟩, ⟨zz BK430⟩, ⟨by repeat (first | (with_reducible first | exact HB.out | apply below_alloc | apply pw_below_drewN | apply below_drew1 | refine below_set ?_ GE415.out | refine below_set ?_ GE416.out | refine below_set ?_ GE417.out | refine below_set ?_ GE422.out | refine below_set ?_ GE426.out | refine below_set ?_ GE430.out) | exact HB.out)⟩⟩
             ·rw [if_neg c89] at H
              have c89b0 : (t434 == t436) = false := beq_eq_false_iff_ne.mpr c89
              have c89b1 : (t434 != t436) = true := bne_iff_ne.mpr c89
              have H' := A0 H
              clear H
              have hnb104 := NB426_415.out
              have hnc104 := NB415_426.out
              have hnb105 := NB426_416.out
              have hnc105 := NB416_426.out
              have hnb106 := NB426_417.out
              have hnc106 := NB417_426.out
              have hnb107 := NB426_422.out
              have hnc107 := NB422_426.out
              have hnb108 := NB426_430.out
              have hnc108 := NB430_426.out
              have hcz109_0 : wc.cell? ⟨gb426, 0, none⟩ = some (.int .i64 t423) := (blk_cell BK426.out 0).trans rfl
              have hcz109_1 : wc.cell? ⟨gb426, 1, none⟩ = some (.int .i64 t424) := (blk_cell BK426.out 1).trans rfl
              have hcz109_2 : wc.cell? ⟨gb426, 2, none⟩ = some (.int .i64 t425) := (blk_cell BK426.out 2).trans rfl
              have hfz109_0 := blk_frozen BK426.out 0
              have hfz109_1 := blk_frozen BK426.out 1
              have hfz109_2 := blk_frozen BK426.out 2
              have hnb110 := NB422_415.out
              have hnc110 := NB415_422.out
              have hnb111 := NB422_416.out
              have hnc111 := NB416_422.out
              have hnb112 := NB422_417.out
              have hnc112 := NB417_422.out
              have hnb113 := NB422_430.out
              have hnc113 := NB430_422.out
              have hcz114_0 : wc.cell? ⟨gb422, 0, none⟩ = some (.int .i64 t419) := (blk_cell BK422.out 0).trans rfl
              have hcz114_1 : wc.cell? ⟨gb422, 1, none⟩ = some (.int .i64 t420) := (blk_cell BK422.out 1).trans rfl
              have hcz114_2 : wc.cell? ⟨gb422, 2, none⟩ = some (.int .i64 t421) := (blk_cell BK422.out 2).trans rfl
              have hfz114_0 := blk_frozen BK422.out 0
              have hfz114_1 := blk_frozen BK422.out 1
              have hfz114_2 := blk_frozen BK422.out 2
              go_wp2_with (first | (go_at_call 27; (with_reducible refine (pitch_Compare.calls kj12 t423 t424 t425 t419 t420 t421 t438 _ ?side1 A84.out).mono ?_); (case side1 => exact GW.step HG_.out (by repeat (first | (with_reducible first | exact HB.out | apply below_alloc | apply pw_below_drewN | apply below_drew1 | refine below_set ?_ GE415.out | refine below_set ?_ GE416.out | refine below_set ?_ GE417.out | refine below_set ?_ GE422.out | refine below_set ?_ GE426.out | refine below_set ?_ GE430.out) | exact HB.out))); rintro e w115 ⟨rfl, hb⟩; have n0_ := A0 (blk_below (zz BK415) hb); have n1_ := A0 (blk_below (zz BK416) hb); have n2_ := A0 (blk_below (zz BK417) hb); have n3_ := A0 (blk_below (zz BK422) hb); have n4_ := A0 (blk_below (zz BK426) hb); have n5_ := A0 (blk_below (zz BK430) hb); have n6_ := A0 (below_step ww hb); clear BK415; clear BK416; clear BK417; clear BK422; clear BK426; clear BK430; clear HB; have BK415 := n0_; have BK416 := n1_; have BK417 := n2_; have BK422 := n3_; have BK426 := n4_; have BK430 := n5_; have HB := n6_; clear n0_ n1_ n2_ n3_ n4_ n5_ n6_; (try clear hb); have hcz116_0 : w115.cell? ⟨gb422, 0, none⟩ = some (.int .i64 t419) := (blk_cell BK422.out 0).trans rfl; have hcz116_1 : w115.cell? ⟨gb422, 1, none⟩ = some (.int .i64 t420) := (blk_cell BK422.out 1).trans rfl; have hcz116_2 : w115.cell? ⟨gb422, 2, none⟩ = some (.int .i64 t421) := (blk_cell BK422.out 2).trans rfl; have hfz116_0 := blk_frozen BK422.out 0; have hfz116_1 := blk_frozen BK422.out 1; have hfz116_2 := blk_frozen BK422.out 2; have hcz117_0 : w115.cell? ⟨gb426, 0, none⟩ = some (.int .i64 t423) := (blk_cell BK426.out 0).trans rfl; have hcz117_1 : w115.cell? ⟨gb426, 1, none⟩ = some (.int .i64 t424) := (blk_cell BK426.out 1).trans rfl; have hcz117_2 : w115.cell? ⟨gb426, 2, none⟩ = some (.int .i64 t425) := (blk_cell BK426.out 2).trans rfl; have hfz117_0 := blk_frozen BK426.out 0; have hfz117_1 := blk_frozen BK426.out 1; have hfz117_2 := blk_frozen BK426.out 2))
              go_meet
              case rel => exact ⟨_, (((decide (t434 < t436)) == (decide (t431 < 0)))), (by first | rfl | (simp; done) | (simp [*]; done)), H', ⟨by have := HJ12.out; first | omega | exact Nat.le_refl _⟩, ⟨zz BK415⟩, ⟨zz BK416⟩, ⟨zz BK417⟩, ⟨zz BK422⟩, ⟨zz BK426⟩, ⟨zz BK430⟩, ⟨by repeat (first | (with_reducible first | exact HB.out | apply below_alloc | apply pw_below_drewN | apply below_drew1 | refine below_set ?_ GE415.out | refine below_set ?_ GE416.out | refine below_set ?_ GE417.out | refine below_set ?_ GE422.out | refine below_set ?_ GE426.out | refine below_set ?_ GE430.out) | exact HB.out)⟩⟩
            ·rw [if_neg c88] at H
             have c88b0 : decide (t431 ≤ 1) = false := decide_eq_false c88
             clear c88
             have H' := A0 H
             clear H
             have hnb118 := NB426_415.out
             have hnc118 := NB415_426.out
             have hnb119 := NB426_416.out
             have hnc119 := NB416_426.out
             have hnb120 := NB426_417.out
             have hnc120 := NB417_426.out
             have hnb121 := NB426_422.out
             have hnc121 := NB422_426.out
             have hnb122 := NB426_430.out
             have hnc122 := NB430_426.out
             have hcz123_0 : wc.cell? ⟨gb426, 0, none⟩ = some (.int .i64 t423) := (blk_cell BK426.out 0).trans rfl
             have hcz123_1 : wc.cell? ⟨gb426, 1, none⟩ = some (.int .i64 t424) := (blk_cell BK426.out 1).trans rfl
             have hcz123_2 : wc.cell? ⟨gb426, 2, none⟩ = some (.int .i64 t425) := (blk_cell BK426.out 2).trans rfl
             have hfz123_0 := blk_frozen BK426.out 0
             have hfz123_1 := blk_frozen BK426.out 1
             have hfz123_2 := blk_frozen BK426.out 2
             have hnb124 := NB422_415.out
             have hnc124 := NB415_422.out
             have hnb125 := NB422_416.out
             have hnc125 := NB416_422.out
             have hnb126 := NB422_417.out
             have hnc126 := NB417_422.out
             have hnb127 := NB422_430.out
             have hnc127 := NB430_422.out
             have hcz128_0 : wc.cell? ⟨gb422, 0, none⟩ = some (.int .i64 t419) := (blk_cell BK422.out 0).trans rfl
             have hcz128_1 : wc.cell? ⟨gb422, 1, none⟩ = some (.int .i64 t420) := (blk_cell BK422.out 1).trans rfl
             have hcz128_2 : wc.cell? ⟨gb422, 2, none⟩ = some (.int .i64 t421) := (blk_cell BK422.out 2).trans rfl
             have hfz128_0 := blk_frozen BK422.out 0
             have hfz128_1 := blk_frozen BK422.out 1
             have hfz128_2 := blk_frozen BK422.out 2
             go_wp2_with (first | (go_at_call 27; (with_reducible refine (pitch_Compare.calls kj12 t423 t424 t425 t419 t420 t421 t438 _ ?side1 A84.out).mono ?_); (case side1 => exact GW.step HG_.out (by repeat (first | (with_reducible first | exact HB.out | apply below_alloc | apply pw_below_drewN | apply below_drew1 | refine below_set ?_ GE415.out | refine below_set ?_ GE416.out | refine below_set ?_ GE417.out | refine below_set ?_ GE422.out | refine below_set ?_ GE426.out | refine below_set ?_ GE430.out) | exact HB.out))); rintro e w129 ⟨rfl, hb⟩; have n0_ := A0 (blk_below (zz BK415) hb); have n1_ := A0 (blk_below (zz BK416) hb); have n2_ := A0 (blk_below (zz BK417) hb); have n3_ := A0 (blk_below (zz BK422) hb); have n4_ := A0 (blk_below (zz BK426) hb); have n5_ := A0 (blk_below (zz BK430) hb); have n6_ := A0 (below_step ww hb); clear BK415; clear BK416; clear BK417; clear BK422; clear BK426; clear BK430; clear HB; have BK415 := n0_; have BK416 := n1_; have BK417 := n2_; have BK422 := n3_; have BK426 := n4_; have BK430 := n5_; have HB := n6_; clear n0_ n1_ n2_ n3_ n4_ n5_ n6_; (try clear hb); have hcz130_0 : w129.cell? ⟨gb422, 0, none⟩ = some (.int .i64 t419) := (blk_cell BK422.out 0).trans rfl; have hcz130_1 : w129.cell? ⟨gb422, 1, none⟩ = some (.int .i64 t420) := (blk_cell BK422.out 1).trans rfl; have hcz130_2 : w129.cell? ⟨gb422, 2, none⟩ = some (.int .i64 t421) := (blk_cell BK422.out 2).trans rfl; have hfz130_0 := blk_frozen BK422.out 0; have hfz130_1 := blk_frozen BK422.out 1; have hfz130_2 := blk_frozen BK422.out 2; have hcz131_0 : w129.cell? ⟨gb426, 0, none⟩ = some (.int .i64 t423) := (blk_cell BK426.out 0).trans rfl; have hcz131_1 : w129.cell? ⟨gb426, 1, none⟩ = some (.int .i64 t424) := (blk_cell BK426.out 1).trans rfl; have hcz131_2 : w129.cell? ⟨gb426, 2, none⟩ = some (.int .i64 t425) := (blk_cell BK426.out 2).trans rfl; have hfz131_0 := blk_frozen BK426.out 0; have hfz131_1 := blk_frozen BK426.out 1; have hfz131_2 := blk_frozen BK426.out 2))
             go_meet
             case rel => exact ⟨_, (false), (by first | rfl | (simp; done) | (simp [*]; done)), H', ⟨by have := HJ12.out; first | omega | exact Nat.le_refl _⟩, ⟨zz BK415⟩, ⟨zz BK416⟩, ⟨zz BK417⟩, ⟨zz BK422⟩, ⟨zz BK426⟩, ⟨zz BK430⟩, ⟨by repeat (first | (with_reducible first | exact HB.out | apply below_alloc | apply pw_below_drewN | apply below_drew1 | refine below_set ?_ GE415.out | refine below_set ?_ GE416.out | refine below_set ?_ GE417.out | refine below_set ?_ GE422.out | refine below_set ?_ GE426.out | refine below_set ?_ GE430.out) | exact HB.out)⟩⟩
           ·rw [if_neg c87] at H
            have c87b0 : decide ((-1) ≤ t431) = false := decide_eq_false c87
            clear c87
            have H' := A0 H
            clear H
            have hnb132 := NB426_415.out
            have hnc132 := NB415_426.out
            have hnb133 := NB426_416.out
            have hnc133 := NB416_426.out
            have hnb134 := NB426_417.out
            have hnc134 := NB417_426.out
            have hnb135 := NB426_422.out
            have hnc135 := NB422_426.out
            have hnb136 := NB426_430.out
            have hnc136 := NB430_426.out
            have hcz137_0 : wc.cell? ⟨gb426, 0, none⟩ = some (.int .i64 t423) := (blk_cell BK426.out 0).trans rfl
            have hcz137_1 : wc.cell? ⟨gb426, 1, none⟩ = some (.int .i64 t424) := (blk_cell BK426.out 1).trans rfl
            have hcz137_2 : wc.cell? ⟨gb426, 2, none⟩ = some (.int .i64 t425) := (blk_cell BK426.out 2).trans rfl
            have hfz137_0 := blk_frozen BK426.out 0
            have hfz137_1 := blk_frozen BK426.out 1
            have hfz137_2 := blk_frozen BK426.out 2
            have hnb138 := NB422_415.out
            have hnc138 := NB415_422.out
            have hnb139 := NB422_416.out
            have hnc139 := NB416_422.out
            have hnb140 := NB422_417.out
            have hnc140 := NB417_422.out
            have hnb141 := NB422_430.out
            have hnc141 := NB430_422.out
            have hcz142_0 : wc.cell? ⟨gb422, 0, none⟩ = some (.int .i64 t419) := (blk_cell BK422.out 0).trans rfl
            have hcz142_1 : wc.cell? ⟨gb422, 1, none⟩ = some (.int .i64 t420) := (blk_cell BK422.out 1).trans rfl
            have hcz142_2 : wc.cell? ⟨gb422, 2, none⟩ = some (.int .i64 t421) := (blk_cell BK422.out 2).trans rfl
            have hfz142_0 := blk_frozen BK422.out 0
            have hfz142_1 := blk_frozen BK422.out 1
            have hfz142_2 := blk_frozen BK422.out 2
            go_wp2_with (first | (go_at_call 27; (with_reducible refine (pitch_Compare.calls kj12 t423 t424 t425 t419 t420 t421 t438 _ ?side1 A84.out).mono ?_); (case side1 => exact GW.step HG_.out (by repeat (first | (with_reducible first | exact HB.out | apply below_alloc | apply pw_below_drewN | apply below_drew1 | refine below_set ?_ GE415.out | refine below_set ?_ GE416.out | refine below_set ?_ GE417.out | refine below_set ?_ GE422.out | refine below_set ?_ GE426.out | refine below_set ?_ GE430.out) | exact HB.out))); rintro e w143 ⟨rfl, hb⟩; have n0_ := A0 (blk_below (zz BK415) hb); have n1_ := A0 (blk_below (zz BK416) hb); have n2_ := A0 (blk_below (zz BK417) hb); have n3_ := A0 (blk_below (zz BK422) hb); have n4_ := A0 (blk_below (zz BK426) hb); have n5_ := A0 (blk_below (zz BK430) hb); have n6_ := A0 (below_step ww hb); clear BK415; clear BK416; clear BK417; clear BK422; clear BK426; clear BK430; clear HB; have BK415 := n0_; have BK416 := n1_; have BK417 := n2_; have BK422 := n3_; have BK426 := n4_; have BK430 := n5_; have HB := n6_; clear n0_ n1_ n2_ n3_ n4_ n5_ n6_; (try clear hb); have hcz144_0 : w143.cell? ⟨gb422, 0, none⟩ = some (.int .i64 t419) := (blk_cell BK422.out 0).trans rfl; have hcz144_1 : w143.cell? ⟨gb422, 1, none⟩ = some (.int .i64 t420) := (blk_cell BK422.out 1).trans rfl; have hcz144_2 : w143.cell? ⟨gb422, 2, none⟩ = some (.int .i64 t421) := (blk_cell BK422.out 2).trans rfl; have hfz144_0 := blk_frozen BK422.out 0; have hfz144_1 := blk_frozen BK422.out 1; have hfz144_2 := blk_frozen BK422.out 2; have hcz145_0 : w143.cell? ⟨gb426, 0, none⟩ = some (.int .i64 t423) := (blk_cell BK426.out 0).trans rfl; have hcz145_1 : w143.cell? ⟨gb426, 1, none⟩ = some (.int .i64 t424) := (blk_cell BK426.out 1).trans rfl; have hcz145_2 : w143.cell? ⟨gb426, 2, none⟩ = some (.int .i64 t425) := (blk_cell BK426.out 2).trans rfl; have hfz145_0 := blk_frozen BK426.out 0; have hfz145_1 := blk_frozen BK426.out 1; have hfz145_2 := blk_frozen BK426.out 2))
            go_meet
            case rel => exact ⟨_, (false), (by first | rfl | (simp; done) | (simp [*]; done)), H', ⟨by have := HJ12.out; first | omega | exact Nat.le_refl _⟩, ⟨zz BK415⟩, ⟨zz BK416⟩, ⟨zz BK417⟩, ⟨zz BK422⟩, ⟨zz BK426⟩, ⟨zz BK430⟩, ⟨by repeat (first | (with_reducible first | exact HB.out | apply below_alloc | apply pw_below_drewN | apply below_drew1 | refine below_set ?_ GE415.out | refine below_set ?_ GE416.out | refine below_set ?_ GE417.out | refine below_set ?_ GE422.out | refine below_set ?_ GE426.out | refine below_set ?_ GE430.out) | exact HB.out)⟩⟩
          ·rw [if_neg c86] at H
           have c86b0 : ((t431 == 0) == (t419 == t423 && (t420 == t424 && (t421 == t425)))) = false := by simpa using c86
           (try (have c86b1 : decide ((t431 == 0) = (t419 == t423 && (t420 == t424 && (t421 == t425)))) = false := by simpa using c86))
           (try (have c86b2 : ((t431 == 0) == (t419 == t423 && (t420 == t424 && (t421 == t425)))) = false := by simpa using c86))
           (try (have c86b3 : ¬ ((t431 == 0) = (t419 == t423 && (t420 == t424 && (t421 == t425)))) := by simpa using c86))
           clear c86
           have H' := A0 H
           clear H
           have hnb146 := NB426_415.out
           have hnc146 := NB415_426.out
           have hnb147 := NB426_416.out
           have hnc147 := NB416_426.out
           have hnb148 := NB426_417.out
           have hnc148 := NB417_426.out
           have hnb149 := NB426_422.out
           have hnc149 := NB422_426.out
           have hnb150 := NB426_430.out
           have hnc150 := NB430_426.out
           have hcz151_0 : wc.cell? ⟨gb426, 0, none⟩ = some (.int .i64 t423) := (blk_cell BK426.out 0).trans rfl
           have hcz151_1 : wc.cell? ⟨gb426, 1, none⟩ = some (.int .i64 t424) := (blk_cell BK426.out 1).trans rfl
           have hcz151_2 : wc.cell? ⟨gb426, 2, none⟩ = some (.int .i64 t425) := (blk_cell BK426.out 2).trans rfl
           have hfz151_0 := blk_frozen BK426.out 0
           have hfz151_1 := blk_frozen BK426.out 1
           have hfz151_2 := blk_frozen BK426.out 2
           have hnb152 := NB422_415.out
           have hnc152 := NB415_422.out
           have hnb153 := NB422_416.out
           have hnc153 := NB416_422.out
           have hnb154 := NB422_417.out
           have hnc154 := NB417_422.out
           have hnb155 := NB422_430.out
           have hnc155 := NB430_422.out
           have hcz156_0 : wc.cell? ⟨gb422, 0, none⟩ = some (.int .i64 t419) := (blk_cell BK422.out 0).trans rfl
           have hcz156_1 : wc.cell? ⟨gb422, 1, none⟩ = some (.int .i64 t420) := (blk_cell BK422.out 1).trans rfl
           have hcz156_2 : wc.cell? ⟨gb422, 2, none⟩ = some (.int .i64 t421) := (blk_cell BK422.out 2).trans rfl
           have hfz156_0 := blk_frozen BK422.out 0
           have hfz156_1 := blk_frozen BK422.out 1
           have hfz156_2 := blk_frozen BK422.out 2
           go_wp2_with (first | (go_at_call 27; (with_reducible refine (pitch_Compare.calls kj12 t423 t424 t425 t419 t420 t421 t438 _ ?side1 A84.out).mono ?_); (case side1 => exact GW.step HG_.out (by repeat (first | (with_reducible first | exact HB.out | apply below_alloc | apply pw_below_drewN | apply below_drew1 | refine below_set ?_ GE415.out | refine below_set ?_ GE416.out | refine below_set ?_ GE417.out | refine below_set ?_ GE422.out | refine below_set ?_ GE426.out | refine below_set ?_ GE430.out) | exact HB.out))); rintro e w157 ⟨rfl, hb⟩; have n0_ := A0 (blk_below (zz BK415) hb); have n1_ := A0 (blk_below (zz BK416) hb); have n2_ := A0 (blk_below (zz BK417) hb); have n3_ := A0 (blk_below (zz BK422) hb); have n4_ := A0 (blk_below (zz BK426) hb); have n5_ := A0 (blk_below (zz BK430) hb); have n6_ := A0 (below_step ww hb); clear BK415; clear BK416; clear BK417; clear BK422; clear BK426; clear BK430; clear HB; have BK415 := n0_; have BK416 := n1_; have BK417 := n2_; have BK422 := n3_; have BK426 := n4_; have BK430 := n5_; have HB := n6_; clear n0_ n1_ n2_ n3_ n4_ n5_ n6_; (try clear hb); have hcz158_0 : w157.cell? ⟨gb422, 0, none⟩ = some (.int .i64 t419) := (blk_cell BK422.out 0).trans rfl; have hcz158_1 : w157.cell? ⟨gb422, 1, none⟩ = some (.int .i64 t420) := (blk_cell BK422.out 1).trans rfl; have hcz158_2 : w157.cell? ⟨gb422, 2, none⟩ = some (.int .i64 t421) := (blk_cell BK422.out 2).trans rfl; have hfz158_0 := blk_frozen BK422.out 0; have hfz158_1 := blk_frozen BK422.out 1; have hfz158_2 := blk_frozen BK422.out 2; have hcz159_0 : w157.cell? ⟨gb426, 0, none⟩ = some (.int .i64 t423) := (blk_cell BK426.out 0).trans rfl; have hcz159_1 : w157.cell? ⟨gb426, 1, none⟩ = some (.int .i64 t424) := (blk_cell BK426.out 1).trans rfl; have hcz159_2 : w157.cell? ⟨gb426, 2, none⟩ = some (.int .i64 t425) := (blk_cell BK426.out 2).trans rfl; have hfz159_0 := blk_frozen BK426.out 0; have hfz159_1 := blk_frozen BK426.out 1; have hfz159_2 := blk_frozen BK426.out 2))
           go_meet
           case rel => exact ⟨_, (false), (by first | rfl | (simp; done) | (simp [*]; done)), H', ⟨by have := HJ12.out; first | omega | exact Nat.le_refl _⟩, ⟨zz BK415⟩, ⟨zz BK416⟩, ⟨zz BK417⟩, ⟨zz BK422⟩, ⟨zz BK426⟩, ⟨zz BK430⟩, ⟨by repeat (first | (with_reducible first | exact HB.out | apply below_alloc | apply pw_below_drewN | apply below_drew1 | refine below_set ?_ GE415.out | refine below_set ?_ GE416.out | refine below_set ?_ GE417.out | refine below_set ?_ GE422.out | refine below_set ?_ GE426.out | refine below_set ?_ GE430.out) | exact HB.out)⟩⟩
         ·rw [if_neg c85] at H
          have c85b0 : (t438 == (wrap64 (-t431))) = false := beq_eq_false_iff_ne.mpr c85
          have c85b1 : (t438 != (wrap64 (-t431))) = true := bne_iff_ne.mpr c85
          have H' := A0 H
          clear H
          have hnb160 := NB426_415.out
          have hnc160 := NB415_426.out
          have hnb161 := NB426_416.out
          have hnc161 := NB416_426.out
          have hnb162 := NB426_417.out
          have hnc162 := NB417_426.out
          have hnb163 := NB426_422.out
          have hnc163 := NB422_426.out
          have hnb164 := NB426_430.out
          have hnc164 := NB430_426.out
          have hcz165_0 : wc.cell? ⟨gb426, 0, none⟩ = some (.int .i64 t423) := (blk_cell BK426.out 0).trans rfl
          have hcz165_1 : wc.cell? ⟨gb426, 1, none⟩ = some (.int .i64 t424) := (blk_cell BK426.out 1).trans rfl
          have hcz165_2 : wc.cell? ⟨gb426, 2, none⟩ = some (.int .i64 t425) := (blk_cell BK426.out 2).trans rfl
          have hfz165_0 := blk_frozen BK426.out 0
          have hfz165_1 := blk_frozen BK426.out 1
          have hfz165_2 := blk_frozen BK426.out 2
          have hnb166 := NB422_415.out
          have hnc166 := NB415_422.out
          have hnb167 := NB422_416.out
          have hnc167 := NB416_422.out
          have hnb168 := NB422_417.out
          have hnc168 := NB417_422.out
          have hnb169 := NB422_430.out
          have hnc169 := NB430_422.out
          have hcz170_0 : wc.cell? ⟨gb422, 0, none⟩ = some (.int .i64 t419) := (blk_cell BK422.out 0).trans rfl
          have hcz170_1 : wc.cell? ⟨gb422, 1, none⟩ = some (.int .i64 t420) := (blk_cell BK422.out 1).trans rfl
          have hcz170_2 : wc.cell? ⟨gb422, 2, none⟩ = some (.int .i64 t421) := (blk_cell BK422.out 2).trans rfl
          have hfz170_0 := blk_frozen BK422.out 0
          have hfz170_1 := blk_frozen BK422.out 1
          have hfz170_2 := blk_frozen BK422.out 2
          go_wp2_with (first | (go_at_call 27; (with_reducible refine (pitch_Compare.calls kj12 t423 t424 t425 t419 t420 t421 t438 _ ?side1 A84.out).mono ?_); (case side1 => exact GW.step HG_.out (by repeat (first | (with_reducible first | exact HB.out | apply below_alloc | apply pw_below_drewN | apply below_drew1 | refine below_set ?_ GE415.out | refine below_set ?_ GE416.out | refine below_set ?_ GE417.out | refine below_set ?_ GE422.out | refine below_set ?_ GE426.out | refine below_set ?_ GE430.out) | exact HB.out))); rintro e w171 ⟨rfl, hb⟩; have n0_ := A0 (blk_below (zz BK415) hb); have n1_ := A0 (blk_below (zz BK416) hb); have n2_ := A0 (blk_below (zz BK417) hb); have n3_ := A0 (blk_below (zz BK422) hb); have n4_ := A0 (blk_below (zz BK426) hb); have n5_ := A0 (blk_below (zz BK430) hb); have n6_ := A0 (below_step ww hb); clear BK415; clear BK416; clear BK417; clear BK422; clear BK426; clear BK430; clear HB; have BK415 := n0_; have BK416 := n1_; have BK417 := n2_; have BK422 := n3_; have BK426 := n4_; have BK430 := n5_; have HB := n6_; clear n0_ n1_ n2_ n3_ n4_ n5_ n6_; (try clear hb)))
          go_meet
          case rel => exact ⟨_, (false), (by first | rfl | (simp; done) | (simp [*]; done)), H', ⟨by have := HJ12.out; first | omega | exact Nat.le_refl _⟩, ⟨zz BK415⟩, ⟨zz BK416⟩, ⟨zz BK417⟩, ⟨zz BK422⟩, ⟨zz BK426⟩, ⟨zz BK430⟩, ⟨by repeat (first | (with_reducible first | exact HB.out | apply below_alloc | apply pw_below_drewN | apply below_drew1 | refine below_set ?_ GE415.out | refine below_set ?_ GE416.out | refine below_set ?_ GE417.out | refine below_set ?_ GE422.out | refine below_set ?_ GE426.out | refine below_set ?_ GE430.out) | exact HB.out)⟩⟩
        ·rw [if_neg c83] at H
         have c83b0 : (t437 == 0) = false := beq_eq_false_iff_ne.mpr c83
         have c83b1 : (t437 != 0) = true := bne_iff_ne.mpr c83
         have H' := A0 H
         clear H
         go_wp2
         go_meet
         case rel => exact ⟨_, (false), (by first | rfl | (simp; done) | (simp [*]; done)), H', ⟨by have := HJ12.out; first | omega | exact Nat.le_refl _⟩, ⟨zz BK415⟩, ⟨zz BK416⟩, ⟨zz BK417⟩, ⟨zz BK422⟩, ⟨zz BK426⟩, ⟨zz BK430⟩, ⟨by repeat (first | (with_reducible first | exact HB.out | apply below_alloc | apply pw_below_drewN | apply below_drew1 | refine below_set ?_ GE415.out | refine below_set ?_ GE416.out | refine below_set ?_ GE417.out | refine below_set ?_ GE422.out | refine below_set ?_ GE426.out | refine below_set ?_ GE430.out) | exact HB.out)⟩⟩
       ·rw [if_neg c82] at H
        have c82b0 : (t435 == 0) = false := beq_eq_false_iff_ne.mpr c82
        have c82b1 : (t435 != 0) = true := bne_iff_ne.mpr c82
        (first | rw [c82b0] | (simp only [i64_w, i32_w]; rw [c82b0]) | skip)
        have H' := A0 H
        clear H
        go_wp2
        go_meet
        case rel => exact ⟨_, (false), (by first | rfl | (simp; done) | (simp [*]; done)), H', ⟨by have := HJ12.out; first | omega | exact Nat.le_refl _⟩, ⟨zz BK415⟩, ⟨zz BK416⟩, ⟨zz BK417⟩, ⟨zz BK422⟩, ⟨zz BK426⟩, ⟨zz BK430⟩, ⟨by repeat (first | (with_reducible first | exact HB.out | apply below_alloc | apply pw_below_drewN | apply below_drew1 | refine below_set ?_ GE415.out | refine below_set ?_ GE416.out | refine below_set ?_ GE417.out | refine below_set ?_ GE422.out | refine below_set ?_ GE426.out | refine below_set ?_ GE430.out) | exact HB.out)⟩⟩
      ·replace c81 := Bool.eq_false_iff.mpr c81
       subst c81
       have H1 : (partitalaw02_PitchOrder.j1 kj12 false) = some r := by rw [if_neg (show ¬ (false = true) by decide)] at H; exact H
       clear H; have H := H1; clear H1
       have H' := A0 H
       clear H
       go_wp2
       go_meet
       case rel => exact ⟨_, (false), (by first | rfl | (simp; done) | (simp [*]; done)), H', ⟨by have := HJ12.out; first | omega | exact Nat.le_refl _⟩, ⟨zz BK415⟩, ⟨zz BK416⟩, ⟨zz BK417⟩, ⟨zz BK422⟩, ⟨zz BK426⟩, ⟨zz BK430⟩, ⟨by repeat (first | (with_reducible first | exact HB.out | apply below_alloc | apply pw_below_drewN | apply below_drew1 | refine below_set ?_ GE415.out | refine below_set ?_ GE416.out | refine below_set ?_ GE417.out | refine below_set ?_ GE422.out | refine below_set ?_ GE426.out | refine below_set ?_ GE430.out) | exact HB.out)⟩⟩
     case rest =>
      clear HC80
      try clear c1
      try clear c2
      try clear p2
      try clear c3
      try clear c4
      try clear c5
      try clear c6
      try clear p6
      try clear c7
      try clear c8
      try clear c9
      try clear c10
      try clear c11
      try clear c12
      try clear c13
      try clear c14
      try clear c15
      try clear c16
      try clear c18
      try clear c19
      try clear c23
      try clear c24
      try clear c25
      try clear c27
      try clear c31
      try clear c32
      try clear c33
      try clear c34
      try clear c39
      try clear c40
      try clear c41
      try clear c42
      try clear c43
      try clear c58
      try clear c58b0
      try clear c59
      try clear c59b0
      try clear c60
      try clear c60b0
      try clear c61
      try clear c61b0
      try clear c62
      try clear c62b0
      try clear c63
      try clear c63b0
      try clear c64
      try clear c64b0
      try clear c64b1
      try clear p64
      try clear c65
      try clear c65b0
      try clear c65b1
      try clear c66
      try clear c66b0
      try clear c66b1
      try clear c67
      try clear c67b0
      try clear c68
      try clear c68b0
      try clear c69
      try clear c69b0
      try clear c70
      try clear c70b0
      try clear c70b1
      try clear c71
      try clear c71b0
      try clear c71b1
      try clear c72
      try clear c72b0
      try clear c72b1
      try clear c73
      try clear c73b0
      try clear c74
      try clear c74b0
      try clear c75
      try clear c75b0
      try clear c76
      try clear c76b0
      try clear c76b1
      try clear c77
      try clear c77b0
      try clear c77b1
      try clear c78
      try clear c78b0
      try clear c78b1
      try clear c79
      try clear c81
      try clear c82
      try clear c82b0
      try clear c82b1
      try clear c83
      try clear c83b0
      try clear c83b1
      try clear c85
      try clear c85b0
      try clear c85b1
      try clear c86
      try clear c86b0
      try clear c86b1
      try clear c86b2
      try clear c87
      try clear c87b0
      try clear c88
      try clear c88b0
      try clear c89
      try clear c89b0
      try clear c89b1
      try clear c90
      try clear c91
      try clear c92
      try clear c93
      try clear c94
      try clear c96
      try clear c97
      try clear c98
      try clear c99
      try clear c104
      try clear c105
      try clear c106
      try clear c107
      try clear c108
      try clear c110
      try clear c111
      try clear c112
      try clear c113
      try clear c118
      try clear c119
      try clear c120
      try clear c121
      try clear c122
      try clear c124
      try clear c125
      try clear c126
      try clear c127
      try clear c132
      try clear c133
      try clear c134
      try clear c135
      try clear c136
      try clear c138
      try clear c139
      try clear c140
      try clear c141
      try clear c146
      try clear c147
      try clear c148
      try clear c149
      try clear c150
      try clear c152
      try clear c153
      try clear c154
      try clear c155
      try clear c160
      try clear c161
      try clear c162
      try clear c163
      try clear c164
      try clear c166
      try clear c167
      try clear c168
      try clear c169
      try clear hcz100_0
      try clear hcz100_1
      try clear hcz100_2
      try clear hcz102_0
      try clear hcz102_1
      try clear hcz102_2
      try clear hcz103_0
      try clear hcz103_1
      try clear hcz103_2
      try clear hcz109_0
      try clear hcz109_1
      try clear hcz109_2
      try clear hcz114_0
      try clear hcz114_1
      try clear hcz114_2
      try clear hcz116_0
      try clear hcz116_1
      try clear hcz116_2
      try clear hcz117_0
      try clear hcz117_1
      try clear hcz117_2
      try clear hcz123_0
      try clear hcz123_1
      try clear hcz123_2
      try clear hcz128_0
      try clear hcz128_1
      try clear hcz128_2
      try clear hcz130_0
      try clear hcz130_1
      try clear hcz130_2
      try clear hcz131_0
      try clear hcz131_1
      try clear hcz131_2
      try clear hcz137_0
      try clear hcz137_1
      try clear hcz137_2
      try clear hcz142_0
      try clear hcz142_1
      try clear hcz142_2
      try clear hcz144_0
      try clear hcz144_1
      try clear hcz144_2
      try clear hcz145_0
      try clear hcz145_1
      try clear hcz145_2
      try clear hcz151_0
      try clear hcz151_1
      try clear hcz151_2
      try clear hcz156_0
      try clear hcz156_1
      try clear hcz156_2
      try clear hcz158_0
      try clear hcz158_1
      try clear hcz158_2
      try clear hcz159_0
      try clear hcz159_1
      try clear hcz159_2
      try clear hcz165_0
      try clear hcz165_1
      try clear hcz165_2
      try clear hcz170_0
      try clear hcz170_1
      try clear hcz170_2
      try clear hcz20_0
      try clear hcz20_1
      try clear hcz20_2
      try clear hcz26_0
      try clear hcz26_1
      try clear hcz26_2
      try clear hcz28_0
      try clear hcz28_1
      try clear hcz28_2
      try clear hcz35_0
      try clear hcz35_1
      try clear hcz35_2
      try clear hcz36_0
      try clear hcz36_1
      try clear hcz36_2
      try clear hcz44_0
      try clear hcz44_1
      try clear hcz44_2
      try clear hcz45_0
      try clear hcz45_1
      try clear hcz45_2
      try clear hcz46_0
      try clear hcz46_1
      try clear hcz46_2
      try clear hcz48_0
      try clear hcz48_1
      try clear hcz48_2
      try clear hcz49_0
      try clear hcz49_1
      try clear hcz49_2
      try clear hcz51_0
      try clear hcz51_1
      try clear hcz51_2
      try clear hcz52_0
      try clear hcz52_1
      try clear hcz52_2
      try clear hcz54_0
      try clear hcz54_1
      try clear hcz54_2
      try clear hcz56_0
      try clear hcz56_1
      try clear hcz56_2
      try clear hcz95_0
      try clear hcz95_1
      try clear hcz95_2
      try clear hfz100_0
      try clear hfz100_1
      try clear hfz100_2
      try clear hfz102_0
      try clear hfz102_1
      try clear hfz102_2
      try clear hfz103_0
      try clear hfz103_1
      try clear hfz103_2
      try clear hfz109_0
      try clear hfz109_1
      try clear hfz109_2
      try clear hfz114_0
      try clear hfz114_1
      try clear hfz114_2
      try clear hfz116_0
      try clear hfz116_1
      try clear hfz116_2
      try clear hfz117_0
      try clear hfz117_1
      try clear hfz117_2
      try clear hfz123_0
      try clear hfz123_1
      try clear hfz123_2
      try clear hfz128_0
      try clear hfz128_1
      try clear hfz128_2
      try clear hfz130_0
      try clear hfz130_1
      try clear hfz130_2
      try clear hfz131_0
      try clear hfz131_1
      try clear hfz131_2
      try clear hfz137_0
      try clear hfz137_1
      try clear hfz137_2
      try clear hfz142_0
      try clear hfz142_1
      try clear hfz142_2
      try clear hfz144_0
      try clear hfz144_1
      try clear hfz144_2
      try clear hfz145_0
      try clear hfz145_1
      try clear hfz145_2
      try clear hfz151_0
      try clear hfz151_1
      try clear hfz151_2
      try clear hfz156_0
      try clear hfz156_1
      try clear hfz156_2
      try clear hfz158_0
      try clear hfz158_1
      try clear hfz158_2
      try clear hfz159_0
      try clear hfz159_1
      try clear hfz159_2
      try clear hfz165_0
      try clear hfz165_1
      try clear hfz165_2
      try clear hfz170_0
      try clear hfz170_1
      try clear hfz170_2
      try clear hfz20_0
      try clear hfz20_1
      try clear hfz20_2
      try clear hfz26_0
      try clear hfz26_1
      try clear hfz26_2
      try clear hfz28_0
      try clear hfz28_1
      try clear hfz28_2
      try clear hfz35_0
      try clear hfz35_1
      try clear hfz35_2
      try clear hfz36_0
      try clear hfz36_1
      try clear hfz36_2
      try clear hfz44_0
      try clear hfz44_1
      try clear hfz44_2
      try clear hfz45_0
      try clear hfz45_1
      try clear hfz45_2
      try clear hfz46_0
      try clear hfz46_1
      try clear hfz46_2
      try clear hfz48_0
      try clear hfz48_1
      try clear hfz48_2
      try clear hfz49_0
      try clear hfz49_1
      try clear hfz49_2
      try clear hfz51_0
      try clear hfz51_1
      try clear hfz51_2
      try clear hfz52_0
      try clear hfz52_1
      try clear hfz52_2
      try clear hfz54_0
      try clear hfz54_1
      try clear hfz54_2
      try clear hfz56_0
      try clear hfz56_1
      try clear hfz56_2
      try clear hfz95_0
      try clear hfz95_1
      try clear hfz95_2
      try clear p2
      obtain ⟨kq, x6_79, rfl, HA, HJ79, BK415, BK416, BK417, BK422, BK426, BK430, HB⟩ := hcut
      cases kq with
      | zero => exact absurd HA.out (by simp [partitalaw02_PitchOrder.j1])
      | succ kj79 =>
       have H := HA.out
       clear HA
       simp only [partitalaw02_PitchOrder.j1] at H
       obtain rfl := Option.some.inj H
       go_wp2
       go_ret
       exact ⟨by first | rfl | (simp [*]; done), by repeat (first | (with_reducible first | exact HB.out | apply below_alloc | apply pw_below_drewN | apply below_drew1 | refine below_set ?_ GE415.out | refine below_set ?_ GE416.out | refine below_set ?_ GE417.out | refine below_set ?_ GE422.out | refine below_set ?_ GE426.out | refine below_set ?_ GE430.out) | exact HB.out)⟩

/-- THE ONE PURE STATEMENT of partitalaw02_PitchOrder: yours. -/
def partitalaw02_PitchOrder.Pure : Prop := ∀ (a0_0 : Int) (a0_1 : Int) (a0_2 : Int) (a1_0 : Int) (a1_1 : Int) (a1_2 : Int) (a2_0 : Int) (a2_1 : Int) (a2_2 : Int), (Lit.int .i64 a0_0).wf = true → (Lit.int .i64 a0_1).wf = true → (Lit.int .i64 a0_2).wf = true → (Lit.int .i64 a1_0).wf = true → (Lit.int .i64 a1_1).wf = true → (Lit.int .i64 a1_2).wf = true → (Lit.int .i64 a2_0).wf = true → (Lit.int .i64 a2_1).wf = true → (Lit.int .i64 a2_2).wf = true → ∃ k, partitalaw02_PitchOrder.f k a0_0 a0_1 a0_2 a1_0 a1_1 a1_2 a2_0 a2_1 a2_2 = some true
theorem partitalaw02_PitchOrder.walk (P : partitalaw02_PitchOrder.Pure) (a0_0 : Int) (a0_1 : Int) (a0_2 : Int) (a1_0 : Int) (a1_1 : Int) (a1_2 : Int) (a2_0 : Int) (a2_1 : Int) (a2_2 : Int) (w : World) (hG_ : GW w) (w0_0 : (Lit.int .i64 a0_0).wf = true) (w0_1 : (Lit.int .i64 a0_1).wf = true) (w0_2 : (Lit.int .i64 a0_2).wf = true) (w1_0 : (Lit.int .i64 a1_0).wf = true) (w1_1 : (Lit.int .i64 a1_1).wf = true) (w1_2 : (Lit.int .i64 a1_2).wf = true) (w2_0 : (Lit.int .i64 a2_0).wf = true) (w2_1 : (Lit.int .i64 a2_1).wf = true) (w2_2 : (Lit.int .i64 a2_2).wf = true) :
   Calls Tryd.prog 8 #[.agg #[.int .i64 a0_0, .int .i64 a0_1, .int .i64 a0_2], .agg #[.int .i64 a1_0, .int .i64 a1_1, .int .i64 a1_2], .agg #[.int .i64 a2_0, .int .i64 a2_1, .int .i64 a2_2]] w fun e w' => e = .returned (.bool true) ∧ Below w.heap.size w w' := by
  obtain ⟨k, h⟩ := P a0_0 a0_1 a0_2 a1_0 a1_1 a1_2 a2_0 a2_1 a2_2 w0_0 w0_1 w0_2 w1_0 w1_1 w1_2 w2_0 w2_1 w2_2
  refine (partitalaw02_PitchOrder.calls k a0_0 a0_1 a0_2 a1_0 a1_1 a1_2 a2_0 a2_1 a2_2 true w rfl hG_ h).mono ?_
  rintro e w' ⟨rfl, hd⟩
  exact ⟨rfl, hd⟩

end Go.Proofs.YtnpinngdiipogaaDoor.M
