-- Written by wip/mprint.py, this session's own program, over the translation. Lean checks it.
import Derived.Test.YtnpinngdiipogaaDoorM0
import Derived.Test.YtnpinngdiipogaaDoorM3
import Derived.Test.YtnpinngdiipogaaDoorM9
import Derived.Test.YtnpinngdiipogaaDoorM10
import Derived.Test.YtnpinngdiipogaaDoorM11
namespace Go.Proofs.YtnpinngdiipogaaDoor.M
open Go.RowKit Go.Proofs.YtnpinngdiipogaaDoorW.PrintWords Go.Proofs.YtnpinngdiipogaaDoorW.PrintLast Go.Proofs.YtnpinngdiipogaaDoorW.PrintMore
attribute [local go_sem] max2_int min2_int max_two min_two max_three min_three max_four min_four   -- for this text's walks alone
set_option linter.unusedVariables false
set_option linter.unusedSimpArgs false

/-! ### partitalaw02_PitchNames: function 10 -/
mutual
def partitalaw02_PitchNames.l0 : Nat → Bool → Int → List (S23) → Int → Option (Bool)
  | 0, _, _, _, _ => none
  | k + 1, x3, x4, x5, x6 => if x6 < 70 then (partitalaw02_PitchNames.l1 k x3 x4 x5 x6 (-2)) else (partitalaw02_PitchNames.l2 k x3 x4 x5 1)
def partitalaw02_PitchNames.l1 : Nat → Bool → Int → List (S23) → Int → Int → Option (Bool)
  | 0, _, _, _, _, _ => none
  | k + 1, x3, x4, x5, x6, x7 => if x7 ≤ 2 then ((pitch_Number.f (Int.tmod (wrap64 (x6 + 7)) 7) x7 (wrap64 ((wrap64 (Int.tdiv (wrap64 (x6 + 7)) 7)) - 1))).bind fun bt481 => ((pitch_Line.f (Int.tmod (wrap64 (x6 + 7)) 7) x7 (wrap64 ((wrap64 (Int.tdiv (wrap64 (x6 + 7)) 7)) - 1))).bind fun bt483 => (if bt481.2 = bt483.2 then (if bt481.2 = 0 then (partitalaw02_PitchNames.j2 k x3 x4 x5 x6 x7 bt481.1 bt481.2 (bt483.1 != x6) (Int.tmod (wrap64 (x6 + 7)) 7) x7 (wrap64 ((wrap64 (Int.tdiv (wrap64 (x6 + 7)) 7)) - 1))) else (partitalaw02_PitchNames.j2 k x3 x4 x5 x6 x7 bt481.1 bt481.2 false (Int.tmod (wrap64 (x6 + 7)) 7) x7 (wrap64 ((wrap64 (Int.tdiv (wrap64 (x6 + 7)) 7)) - 1)))) else (partitalaw02_PitchNames.j2 k x3 x4 x5 x6 x7 bt481.1 bt481.2 true (Int.tmod (wrap64 (x6 + 7)) 7) x7 (wrap64 ((wrap64 (Int.tdiv (wrap64 (x6 + 7)) 7)) - 1)))))) else (partitalaw02_PitchNames.l0 k x3 x4 x5 (wrap64 (x6 + 1)))
def partitalaw02_PitchNames.j2 : Nat → Bool → Int → List (S23) → Int → Int → Int → Int → Bool → Int → Int → Int → Option (Bool)
  | 0, _, _, _, _, _, _, _, _, _, _, _ => none
  | k + 1, x3, x4, x5, x6, x7, x9, x10, x55, x481000, x481001, x481002 => if x55 = true then (some false) else (if x10 = 0 then (if x9 = x4 then (if x5.length < 5864062014805 then (partitalaw02_PitchNames.l1 k x3 x4 (x5 ++ [(⟨x481000, x481001, x481002⟩ : S23)]) x6 (wrap64 (x7 + 1))) else (none)) else (partitalaw02_PitchNames.l1 k x3 x4 x5 x6 (wrap64 (x7 + 1)))) else (partitalaw02_PitchNames.l1 k x3 x4 x5 x6 (wrap64 (x7 + 1))))
def partitalaw02_PitchNames.l2 : Nat → Bool → Int → List (S23) → Int → Option (Bool)
  | 0, _, _, _, _ => none
  | k + 1, x3, x4, x5, x13 => if x13 < (x5.length : Int) then (if 0 ≤ (wrap64 (x13 - 1)) then (if (wrap64 (x13 - 1)) < (x5.length : Int) then (if 0 ≤ x13 then ((pitch_Compare.f k ((rd_T23 x5 (wrap64 (x13 - 1))).f0) ((rd_T23 x5 (wrap64 (x13 - 1))).f1) ((rd_T23 x5 (wrap64 (x13 - 1))).f2) ((rd_T23 x5 x13).f0) ((rd_T23 x5 x13).f1) ((rd_T23 x5 x13).f2)).bind fun t490 => (if t490 = (-1) then (partitalaw02_PitchNames.l2 k x3 x4 x5 (wrap64 (x13 + 1))) else (some false))) else (none)) else (none)) else (none)) else (if x4 > 127 then (if x3 = true then (some ((x5.length : Int) == 0)) else (some false)) else (if x3 = true then (if (x5.length : Int) ≥ 1 then (some (decide ((x5.length : Int) ≤ 3))) else (some false)) else (some false)))
end
def partitalaw02_PitchNames.f (k : Nat) (a0 : Int) : Option (Bool) := (partitalaw02_awake.f k).bind fun t478 => ((partitalaw02_pick.f a0 140).bind fun t479 => (partitalaw02_PitchNames.l0 k t478 t479 ([] : List (S23)) (-7)))
theorem partitalaw02_PitchNames.mono_l : ∀ k, (∀ y0 y1 y2 y3, LeO (partitalaw02_PitchNames.l0 k y0 y1 y2 y3) (partitalaw02_PitchNames.l0 (k + 1) y0 y1 y2 y3)) ∧ (∀ y0 y1 y2 y3 y4, LeO (partitalaw02_PitchNames.l1 k y0 y1 y2 y3 y4) (partitalaw02_PitchNames.l1 (k + 1) y0 y1 y2 y3 y4)) ∧ (∀ y0 y1 y2 y3 y4 y5 y6 y7 y8 y9 y10, LeO (partitalaw02_PitchNames.j2 k y0 y1 y2 y3 y4 y5 y6 y7 y8 y9 y10) (partitalaw02_PitchNames.j2 (k + 1) y0 y1 y2 y3 y4 y5 y6 y7 y8 y9 y10)) ∧ (∀ y0 y1 y2 y3, LeO (partitalaw02_PitchNames.l2 k y0 y1 y2 y3) (partitalaw02_PitchNames.l2 (k + 1) y0 y1 y2 y3))
  | 0 => ⟨fun _ _ _ _ r h => by simp [partitalaw02_PitchNames.l0] at h, fun _ _ _ _ _ r h => by simp [partitalaw02_PitchNames.l1] at h, fun _ _ _ _ _ _ _ _ _ _ _ r h => by simp [partitalaw02_PitchNames.j2] at h, fun _ _ _ _ r h => by simp [partitalaw02_PitchNames.l2] at h⟩
  | k + 1 => by
    obtain ⟨ih0, ih1, ih2, ih3⟩ := partitalaw02_PitchNames.mono_l k
    refine ⟨?_, ?_, ?_, ?_⟩
    · intro y0 y1 y2 y3
      unfold partitalaw02_PitchNames.l0
      repeat' first
      | (with_reducible exact ih0 _ _ _ _)
      | (with_reducible exact ih1 _ _ _ _ _)
      | (with_reducible exact ih2 _ _ _ _ _ _ _ _ _ _ _)
      | (with_reducible exact ih3 _ _ _ _)
      | (with_reducible exact partitalaw02_awake.mono _)
      | (with_reducible exact pitch_Compare.mono _ _ _ _ _ _ _)
      | (with_reducible exact LeO.refl _)
      | (with_reducible exact LeO.none _)
      | (with_reducible refine LeO.ite ?_ ?_)
      | (with_reducible refine LeO.bind ?_ (fun _ => ?_))
      | exact ih0 _ _ _ _
      | exact ih1 _ _ _ _ _
      | exact ih2 _ _ _ _ _ _ _ _ _ _ _
      | exact ih3 _ _ _ _
      | exact partitalaw02_awake.mono _
      | exact pitch_Compare.mono _ _ _ _ _ _ _
      | exact LeO.none _
      | refine LeO.ite ?_ ?_
      | refine LeO.bind ?_ (fun _ => ?_)
    · intro y0 y1 y2 y3 y4
      unfold partitalaw02_PitchNames.l1
      repeat' first
      | (with_reducible exact ih0 _ _ _ _)
      | (with_reducible exact ih1 _ _ _ _ _)
      | (with_reducible exact ih2 _ _ _ _ _ _ _ _ _ _ _)
      | (with_reducible exact ih3 _ _ _ _)
      | (with_reducible exact partitalaw02_awake.mono _)
      | (with_reducible exact pitch_Compare.mono _ _ _ _ _ _ _)
      | (with_reducible exact LeO.refl _)
      | (with_reducible exact LeO.none _)
      | (with_reducible refine LeO.ite ?_ ?_)
      | (with_reducible refine LeO.bind ?_ (fun _ => ?_))
      | exact ih0 _ _ _ _
      | exact ih1 _ _ _ _ _
      | exact ih2 _ _ _ _ _ _ _ _ _ _ _
      | exact ih3 _ _ _ _
      | exact partitalaw02_awake.mono _
      | exact pitch_Compare.mono _ _ _ _ _ _ _
      | exact LeO.none _
      | refine LeO.ite ?_ ?_
      | refine LeO.bind ?_ (fun _ => ?_)
    · intro y0 y1 y2 y3 y4 y5 y6 y7 y8 y9 y10
      unfold partitalaw02_PitchNames.j2
      repeat' first
      | (with_reducible exact ih0 _ _ _ _)
      | (with_reducible exact ih1 _ _ _ _ _)
      | (with_reducible exact ih2 _ _ _ _ _ _ _ _ _ _ _)
      | (with_reducible exact ih3 _ _ _ _)
      | (with_reducible exact partitalaw02_awake.mono _)
      | (with_reducible exact pitch_Compare.mono _ _ _ _ _ _ _)
      | (with_reducible exact LeO.refl _)
      | (with_reducible exact LeO.none _)
      | (with_reducible refine LeO.ite ?_ ?_)
      | (with_reducible refine LeO.bind ?_ (fun _ => ?_))
      | exact ih0 _ _ _ _
      | exact ih1 _ _ _ _ _
      | exact ih2 _ _ _ _ _ _ _ _ _ _ _
      | exact ih3 _ _ _ _
      | exact partitalaw02_awake.mono _
      | exact pitch_Compare.mono _ _ _ _ _ _ _
      | exact LeO.none _
      | refine LeO.ite ?_ ?_
      | refine LeO.bind ?_ (fun _ => ?_)
    · intro y0 y1 y2 y3
      unfold partitalaw02_PitchNames.l2
      repeat' first
      | (with_reducible exact ih0 _ _ _ _)
      | (with_reducible exact ih1 _ _ _ _ _)
      | (with_reducible exact ih2 _ _ _ _ _ _ _ _ _ _ _)
      | (with_reducible exact ih3 _ _ _ _)
      | (with_reducible exact partitalaw02_awake.mono _)
      | (with_reducible exact pitch_Compare.mono _ _ _ _ _ _ _)
      | (with_reducible exact LeO.refl _)
      | (with_reducible exact LeO.none _)
      | (with_reducible refine LeO.ite ?_ ?_)
      | (with_reducible refine LeO.bind ?_ (fun _ => ?_))
      | exact ih0 _ _ _ _
      | exact ih1 _ _ _ _ _
      | exact ih2 _ _ _ _ _ _ _ _ _ _ _
      | exact ih3 _ _ _ _
      | exact partitalaw02_awake.mono _
      | exact pitch_Compare.mono _ _ _ _ _ _ _
      | exact LeO.none _
      | refine LeO.ite ?_ ?_
      | refine LeO.bind ?_ (fun _ => ?_)
theorem partitalaw02_PitchNames.mono : ∀ a0 k, LeO (partitalaw02_PitchNames.f k a0) (partitalaw02_PitchNames.f (k + 1) a0) := by
  intro a0 k
  obtain ⟨ih0, ih1, ih2, ih3⟩ := partitalaw02_PitchNames.mono_l k
  unfold partitalaw02_PitchNames.f
  repeat' first
      | (with_reducible exact ih0 _ _ _ _)
      | (with_reducible exact ih1 _ _ _ _ _)
      | (with_reducible exact ih2 _ _ _ _ _ _ _ _ _ _ _)
      | (with_reducible exact ih3 _ _ _ _)
      | (with_reducible exact partitalaw02_awake.mono _)
      | (with_reducible exact pitch_Compare.mono _ _ _ _ _ _ _)
      | (with_reducible exact LeO.refl _)
      | (with_reducible exact LeO.none _)
      | (with_reducible refine LeO.ite ?_ ?_)
      | (with_reducible refine LeO.bind ?_ (fun _ => ?_))
      | exact ih0 _ _ _ _
      | exact ih1 _ _ _ _ _
      | exact ih2 _ _ _ _ _ _ _ _ _ _ _
      | exact ih3 _ _ _ _
      | exact partitalaw02_awake.mono _
      | exact pitch_Compare.mono _ _ _ _ _ _ _
      | exact LeO.none _
      | refine LeO.ite ?_ ?_
      | refine LeO.bind ?_ (fun _ => ?_)
def partitalaw02_PitchNames.T20 : Bool × List (List Nat × List Nat) := (true, [([], []), ([], []), ([1], [1]), ([0, 2], [0, 2]), ([3], [3]), ([], []), ([], []), ([5, 6], [5, 6]), ([7], [7]), ([4, 8], [4, 8]), ([9], [9])])
def partitalaw02_PitchNames.B20 : List Nat := [0, 0, 2, 7, 15, 0, 0, 96, 224, 511, 1023]
theorem partitalaw02_PitchNames.tab20 : rtab .any (opsOf Tryd.f10 20) = partitalaw02_PitchNames.T20 := by kernel_rfl
theorem partitalaw02_PitchNames.bits20 : waitsOk partitalaw02_PitchNames.T20.2 partitalaw02_PitchNames.B20 = true := by kernel_rfl
set_option maxHeartbeats 8000000 in
set_option maxRecDepth 100000 in
theorem partitalaw02_PitchNames.calls (k : Nat) (a0 : Int) (r : Bool) (w : World) (hr_ : r = true) (hG_ : GW w) (h : partitalaw02_PitchNames.f k a0 = some r) :
    Calls Tryd.prog 10 #[.int .i64 a0] w fun e w' => e = .returned (.bool r) ∧ Below w.heap.size w w' := by
  have hu23 := Tryd.underlying23
  have HB := Aside0.mk (Below.refl w.heap.size w)
  have HR_ := Aside0.mk hr_
  clear hr_
  have HG_ := Aside0.mk hG_
  clear hG_
  have H : ((partitalaw02_awake.f k).bind fun t478 => ((partitalaw02_pick.f a0 140).bind fun t479 => (partitalaw02_PitchNames.l0 k t478 t479 ([] : List (S23)) (-7)))) = some r := h
  clear h
  replace H := Option.bind_eq_some_iff.mp H
  obtain ⟨t478, A20, H⟩ := H
  replace H : ((partitalaw02_pick.f a0 140).bind fun t479 => (partitalaw02_PitchNames.l0 k t478 t479 ([] : List (S23)) (-7))) = some r := H
  have A2 := Aside0.mk A20
  clear A20
  replace H := Option.bind_eq_some_iff.mp H
  obtain ⟨t479, A30, H⟩ := H
  replace H : (partitalaw02_PitchNames.l0 k t478 t479 ([] : List (S23)) (-7)) = some r := H
  have A3 := Aside0.mk A30
  clear A30
  have H' := Aside0.mk H
  clear H
  go_enter Tryd.func10, Tryd.ntmps10
  go_wp2_with (first | ((with_reducible refine gate_callee (f := 12) rfl ?_); refine goesL_ (some 14) rfl rfl Tryd.func12 (by kernel_rfl) rfl #[] rfl (by (try simp only [List.map_toArray, List.map_cons, List.map_nil]); first | done | rfl) ?_; (with_reducible refine (partitalaw02_awake.calls k  t478 _ ?side1 A2.out).mono ?_); (case side1 => exact GW.step HG_.out (by repeat (first | (with_reducible first | exact HB.out | apply below_alloc | apply pw_below_drewN | apply below_drew1) | exact HB.out))); rintro e w4 ⟨rfl, hb⟩; refine ⟨_, rfl, ?_⟩; have n0_ := Aside0.mk (below_step (by repeat (first | (with_reducible first | exact HB.out | apply below_alloc | apply pw_below_drewN | apply below_drew1) | exact HB.out)) hb); clear HB; have HB := n0_; clear n0_; (try clear hb); (try clear hb2); (try clear hk); (try clear hi)) | ((with_reducible refine gate_callee (f := 22) rfl ?_); refine goesL_ (some 16) rfl rfl Tryd.func22 (by kernel_rfl) rfl #[.int .i64 a0, .int .i64 140] rfl (by (try simp only [List.map_toArray, List.map_cons, List.map_nil]); first | done | rfl) ?_; (with_reducible refine (partitalaw02_pick.calls a0 140 t479 _ A3.out).mono ?_); rintro e w' ⟨rfl, ⟨nd, rfl⟩⟩; refine ⟨_, rfl, ?_⟩))
  go_loopg [5, 6] k (fun kq v5 v6 w' => ∃ (x5_1 : List (S23)) (x6_1 : Int), v6 = .int .i64 x6_1 ∧ Aside0 (partitalaw02_PitchNames.l0 kq t478 t479 x5_1 x6_1 = some r) ∧ Aside0 (kq ≤ k) ∧ Aside0 (Kd.R k23 23 w' w.heap.size (fun _ => True) v5 x5_1) ∧ Aside0 (Below w.heap.size w w'))
  case atStart => exact ⟨(([] : List (S23))), ((-7)), (by first | rfl | (simp; done) | (simp [*]; done)), H', ⟨Nat.le_refl _⟩, ⟨by first | exact Kd.R_nil _ _ _ _ _ | exact Kd.N_nil _ _ _ _ _ | exact Kd.V_nil _ _ _ _ _ | exact Kd.Q_nil _ _ _ _ _ | exact Kd.S_nil _ _ _ _ _⟩, ⟨by repeat (first | (with_reducible first | exact HB.out | apply below_alloc | apply pw_below_drewN | apply below_drew1) | exact HB.out)⟩⟩
  case round =>
    clear H'
    try clear c1
    try clear c2
    try clear p2
    obtain ⟨x5_1, x6_1, rfl, HA, HK1, HO_5, HB⟩ := hrel
    cases gk with
    | zero => exact absurd HA.out (by simp [partitalaw02_PitchNames.l0])
    | succ k1 =>
      have H := HA.out
      clear HA
      simp only [partitalaw02_PitchNames.l0] at H
      by_cases c5 : x6_1 < 70
      · rw [if_pos c5] at H
        have c5b0 : decide (x6_1 < 70) = true := decide_eq_true c5
        clear c5
        have H' := Aside0.mk H
        clear H
        go_wp2
        go_loopg [5, 7] k1 (fun kq v5 v7 w' => ∃ (x5_2 : List (S23)) (x7_2 : Int), v7 = .int .i64 x7_2 ∧ Aside0 (partitalaw02_PitchNames.l1 kq t478 t479 x5_2 x6_1 x7_2 = some r) ∧ Aside0 (kq ≤ k1) ∧ Aside0 (Kd.R k23 23 w' w.heap.size (fun _ => True) v5 x5_2) ∧ Aside0 (Below w.heap.size w w'))
        case atStart => exact ⟨(x5_1), ((-2)), (by first | rfl | (simp; done) | (simp [*]; done)), H', ⟨Nat.le_refl _⟩, ⟨by (with_reducible repeat (first | apply Kd.R_alloc | apply Kd.R_drewN | apply Kd.R_drew)); exact HO_5.out⟩, ⟨by repeat (first | (with_reducible first | exact HB.out | apply below_alloc | apply pw_below_drewN | apply below_drew1) | exact HB.out)⟩⟩
        case round =>
          clear H'
          try clear c1
          try clear c2
          try clear p2
          try clear c5
          try clear c5b0
          try clear p2
          obtain ⟨x5_2, x7_2, rfl, HA, HK2, HO_5, HB⟩ := hrel
          cases gk with
          | zero => exact absurd HA.out (by simp [partitalaw02_PitchNames.l1])
          | succ k2 =>
            have H := HA.out
            clear HA
            simp only [partitalaw02_PitchNames.l1] at H
            by_cases c6 : x7_2 ≤ 2
            · rw [if_pos c6] at H
              have c6b0 : decide (x7_2 ≤ 2) = true := decide_eq_true c6
              clear c6
              replace H := Option.bind_eq_some_iff.mp H
              obtain ⟨⟨t481, t482⟩, A70, H⟩ := H
              replace H : ((pitch_Line.f (Int.tmod (wrap64 (x6_1 + 7)) 7) x7_2 (wrap64 ((wrap64 (Int.tdiv (wrap64 (x6_1 + 7)) 7)) - 1))).bind fun bt483 => (if t482 = bt483.2 then (if t482 = 0 then (partitalaw02_PitchNames.j2 k2 t478 t479 x5_2 x6_1 x7_2 t481 t482 (bt483.1 != x6_1) (Int.tmod (wrap64 (x6_1 + 7)) 7) x7_2 (wrap64 ((wrap64 (Int.tdiv (wrap64 (x6_1 + 7)) 7)) - 1))) else (partitalaw02_PitchNames.j2 k2 t478 t479 x5_2 x6_1 x7_2 t481 t482 false (Int.tmod (wrap64 (x6_1 + 7)) 7) x7_2 (wrap64 ((wrap64 (Int.tdiv (wrap64 (x6_1 + 7)) 7)) - 1)))) else (partitalaw02_PitchNames.j2 k2 t478 t479 x5_2 x6_1 x7_2 t481 t482 true (Int.tmod (wrap64 (x6_1 + 7)) 7) x7_2 (wrap64 ((wrap64 (Int.tdiv (wrap64 (x6_1 + 7)) 7)) - 1))))) = some r := H
              have A7 := Aside0.mk A70
              clear A70
              replace H := Option.bind_eq_some_iff.mp H
              obtain ⟨⟨t483, t484⟩, A80, H⟩ := H
              replace H : (if t482 = t484 then (if t482 = 0 then (partitalaw02_PitchNames.j2 k2 t478 t479 x5_2 x6_1 x7_2 t481 t482 (t483 != x6_1) (Int.tmod (wrap64 (x6_1 + 7)) 7) x7_2 (wrap64 ((wrap64 (Int.tdiv (wrap64 (x6_1 + 7)) 7)) - 1))) else (partitalaw02_PitchNames.j2 k2 t478 t479 x5_2 x6_1 x7_2 t481 t482 false (Int.tmod (wrap64 (x6_1 + 7)) 7) x7_2 (wrap64 ((wrap64 (Int.tdiv (wrap64 (x6_1 + 7)) 7)) - 1)))) else (partitalaw02_PitchNames.j2 k2 t478 t479 x5_2 x6_1 x7_2 t481 t482 true (Int.tmod (wrap64 (x6_1 + 7)) 7) x7_2 (wrap64 ((wrap64 (Int.tdiv (wrap64 (x6_1 + 7)) 7)) - 1)))) = some r := H
              have A8 := Aside0.mk A80
              clear A80
              have HC9 := Aside0.mk H
              clear H
              go_upto_region 13 with (first | ((with_reducible refine gate_dst (N := 8) rfl ?_); (try (refine gate_guard (by rfl) ?_; dsimp only)); refine box_event ?hg (N := 8) ?hd (cs := #[.int .i64 0, .int .i64 0, .int .i64 0]) (t := 23) ?hr ?_; (case hd => rfl); (case hg => rfl); (case hr => first | (go_simp; done) | (go_simp; rfl)); intro gb480 hg w10 hbox hb; have n0_ := Aside0.mk (Kd.R_below (Kd.R_elderB (by (with_reducible repeat (first | apply Kd.R_alloc | apply Kd.R_drewN | apply Kd.R_drew)); exact HO_5.out) gb480 (Nat.le_of_eq hg.symm)) hb); have n1_ := Aside0.mk (below_step (by repeat (first | (with_reducible first | exact HB.out | apply below_alloc | apply pw_below_drewN | apply below_drew1) | exact HB.out)) hb); have n2_ := Aside0.mk (hbox); have n3_ := Aside0.mk ((by rw [hg]; exact (below_size (by repeat (first | (with_reducible first | exact HB.out | apply below_alloc | apply pw_below_drewN | apply below_drew1) | exact HB.out))) : w.heap.size ≤ gb480)); have n4_ := n3_; clear HO_5; clear HB; have HO_5 := n0_; have HB := n1_; have BK480 := n2_; have GW480 := n3_; have GE480 := n4_; clear n0_ n1_ n2_ n3_ n4_; clear hb hbox hg; have hcz11_0 : w10.cell? ⟨gb480, 0, none⟩ = some (.int .i64 0) := (blk_cell BK480.out 0).trans rfl; have hcz11_1 : w10.cell? ⟨gb480, 1, none⟩ = some (.int .i64 0) := (blk_cell BK480.out 1).trans rfl; have hcz11_2 : w10.cell? ⟨gb480, 2, none⟩ = some (.int .i64 0) := (blk_cell BK480.out 2).trans rfl; have hfz11_0 := blk_frozen BK480.out 0; have hfz11_1 := blk_frozen BK480.out 1; have hfz11_2 := blk_frozen BK480.out 2) | ((with_reducible refine gate_callee (f := 14) rfl ?_); refine goesL_ (some 36) rfl rfl Tryd.func14 (by kernel_rfl) rfl #[.agg #[.int .i64 (Int.tmod (wrap64 (x6_1 + 7)) 7), .int .i64 x7_2, .int .i64 (wrap64 ((wrap64 (Int.tdiv (wrap64 (x6_1 + 7)) 7)) - 1))]] rfl (by (try simp only [List.map_toArray, List.map_cons, List.map_nil]); first | done | rfl) ?_; (with_reducible refine (pitch_Number.calls (Int.tmod (wrap64 (x6_1 + 7)) 7) x7_2 (wrap64 ((wrap64 (Int.tdiv (wrap64 (x6_1 + 7)) 7)) - 1)) t481 t482 _ ?side1 A7.out).mono ?_); (case side1 => exact GW.step HG_.out (by repeat (first | (with_reducible first | exact HB.out | apply below_alloc | apply pw_below_drewN | apply below_drew1 | refine below_set ?_ GE480.out) | exact HB.out))); rintro e w12 ⟨rfl, hb⟩; refine ⟨_, rfl, ?_⟩; have n0_ := Aside0.mk (Kd.R_below (by (with_reducible repeat (first | apply Kd.R_alloc | apply Kd.R_drewN | apply Kd.R_drew)); exact (Kd.R_mono (Kd.R_far (p := ⟨gb480, 2, none⟩) (Kd.R_far (p := ⟨gb480, 1, none⟩) (Kd.R_far (p := ⟨gb480, 0, none⟩) (Kd.R_mono HO_5.out (fun k_ hk => (⟨hk, hk.2⟩ : _ ∧ k_ ≠ gb480))) (fun _ hk => hk.2) (.int .i64 (Int.tmod (wrap64 (x6_1 + 7)) 7))) (fun _ hk => hk.2) (.int .i64 x7_2)) (fun _ hk => hk.2) (.int .i64 (wrap64 ((wrap64 (Int.tdiv (wrap64 (x6_1 + 7)) 7)) - 1)))) (fun _ h_ => h_.1))) hb); have n1_ := Aside0.mk (blk_below (g := gb480) (o := .cells #[.int .i64 (Int.tmod (wrap64 (x6_1 + 7)) 7), .int .i64 x7_2, .int .i64 (wrap64 ((wrap64 (Int.tdiv (wrap64 (x6_1 + 7)) 7)) - 1))] 23 (0, 0)) (by (with_reducible repeat (first | refine blk_drewN ?_ _ | refine blk_drew ?_ | refine blk_alloc ?_ _)); refine blk_put (cs := #[.int .i64 (Int.tmod (wrap64 (x6_1 + 7)) 7), .int .i64 x7_2, .int .i64 0]) ?_ 2 _ rfl; (with_reducible repeat (first | refine blk_drewN ?_ _ | refine blk_drew ?_ | refine blk_alloc ?_ _)); refine blk_put (cs := #[.int .i64 (Int.tmod (wrap64 (x6_1 + 7)) 7), .int .i64 0, .int .i64 0]) ?_ 1 _ rfl; (with_reducible repeat (first | refine blk_drewN ?_ _ | refine blk_drew ?_ | refine blk_alloc ?_ _)); refine blk_put (cs := #[.int .i64 0, .int .i64 0, .int .i64 0]) ?_ 0 _ rfl; (with_reducible repeat (first | refine blk_drewN ?_ _ | refine blk_drew ?_ | refine blk_alloc ?_ _)); exact BK480.out) hb); have n2_ := Aside0.mk (below_step (by repeat (first | (with_reducible first | exact HB.out | apply below_alloc | apply pw_below_drewN | apply below_drew1 | refine below_set ?_ GE480.out) | exact HB.out)) hb); clear HO_5; clear BK480; clear HB; have HO_5 := n0_; have BK480 := n1_; have HB := n2_; clear n0_ n1_ n2_; (try clear hb); (try clear hb2); (try clear hk); (try clear hi); have hcz13_0 : w12.cell? ⟨gb480, 0, none⟩ = some (.int .i64 (Int.tmod (wrap64 (x6_1 + 7)) 7)) := (blk_cell BK480.out 0).trans rfl; have hcz13_1 : w12.cell? ⟨gb480, 1, none⟩ = some (.int .i64 x7_2) := (blk_cell BK480.out 1).trans rfl; have hcz13_2 : w12.cell? ⟨gb480, 2, none⟩ = some (.int .i64 (wrap64 ((wrap64 (Int.tdiv (wrap64 (x6_1 + 7)) 7)) - 1))) := (blk_cell BK480.out 2).trans rfl; have hfz13_0 := blk_frozen BK480.out 0; have hfz13_1 := blk_frozen BK480.out 1; have hfz13_2 := blk_frozen BK480.out 2) | ((with_reducible refine gate_callee (f := 16) rfl ?_); refine goesL_ (some 41) rfl rfl Tryd.func16 (by kernel_rfl) rfl #[.agg #[.int .i64 (Int.tmod (wrap64 (x6_1 + 7)) 7), .int .i64 x7_2, .int .i64 (wrap64 ((wrap64 (Int.tdiv (wrap64 (x6_1 + 7)) 7)) - 1))]] rfl (by (try simp only [List.map_toArray, List.map_cons, List.map_nil]); first | done | rfl) ?_; (with_reducible refine (pitch_Line.calls (Int.tmod (wrap64 (x6_1 + 7)) 7) x7_2 (wrap64 ((wrap64 (Int.tdiv (wrap64 (x6_1 + 7)) 7)) - 1)) t483 t484 _ ?side1 A8.out).mono ?_); (case side1 => exact GW.step HG_.out (by repeat (first | (with_reducible first | exact HB.out | apply below_alloc | apply pw_below_drewN | apply below_drew1 | refine below_set ?_ GE480.out) | exact HB.out))); rintro e w14 ⟨rfl, hb⟩; refine ⟨_, rfl, ?_⟩; have n0_ := Aside0.mk (Kd.R_below (by (with_reducible repeat (first | apply Kd.R_alloc | apply Kd.R_drewN | apply Kd.R_drew)); exact HO_5.out) hb); have n1_ := Aside0.mk (blk_below (g := gb480) (o := .cells #[.int .i64 (Int.tmod (wrap64 (x6_1 + 7)) 7), .int .i64 x7_2, .int .i64 (wrap64 ((wrap64 (Int.tdiv (wrap64 (x6_1 + 7)) 7)) - 1))] 23 (0, 0)) (by (with_reducible repeat (first | refine blk_drewN ?_ _ | refine blk_drew ?_ | refine blk_alloc ?_ _)); exact BK480.out) hb); have n2_ := Aside0.mk (below_step (by repeat (first | (with_reducible first | exact HB.out | apply below_alloc | apply pw_below_drewN | apply below_drew1 | refine below_set ?_ GE480.out) | exact HB.out)) hb); clear HO_5; clear BK480; clear HB; have HO_5 := n0_; have BK480 := n1_; have HB := n2_; clear n0_ n1_ n2_; (try clear hb); (try clear hb2); (try clear hk); (try clear hi)))
              (try simp only [Act.put, List.setIfInBounds_toArray, List.set_cons_zero, List.set_cons_succ])
              go_cut [55] (fun v55 wc => ∃ (kq : Nat) (x55_8 : Bool), v55 = .bool x55_8 ∧ Aside0 (partitalaw02_PitchNames.j2 kq t478 t479 x5_2 x6_1 x7_2 t481 t482 x55_8 (Int.tmod (wrap64 (x6_1 + 7)) 7) x7_2 (wrap64 ((wrap64 (Int.tdiv (wrap64 (x6_1 + 7)) 7)) - 1)) = some r) ∧ Aside0 (kq ≤ k2) ∧ Aside0 (Kd.R k23 23 wc w.heap.size (fun k_ => k_ ≠ gb480) u5 x5_2) ∧ Aside0 (wc.heap[gb480]? = some (.cells #[.int .i64 (Int.tmod (wrap64 (x6_1 + 7)) 7), .int .i64 x7_2, .int .i64 (wrap64 ((wrap64 (Int.tdiv (wrap64 (x6_1 + 7)) 7)) - 1))] 23 (0, 0))) ∧ Aside0 (Below w.heap.size w wc))
              case first =>
                have H := HC9.out
                clear HC9
                by_cases c15 : t482 = t484
                · rw [if_pos c15] at H
                  have c15b0 : (t482 == t484) = true := beq_iff_eq.mpr c15
                  have c15b1 : (t482 != t484) = false := bne_eq_false_iff_eq.mpr c15
                  clear c15
                  (first | rw [c15b0] | (simp only [i64_w, i32_w]; rw [c15b0]) | skip)
                  by_cases c16 : t482 = 0
                  · rw [if_pos c16] at H
                    have c16b0 : (t482 == 0) = true := beq_iff_eq.mpr c16
                    have c16b1 : (t482 != 0) = false := bne_eq_false_iff_eq.mpr c16
                    clear c16
                    have H' := Aside0.mk H
                    clear H
                    go_wp2
                    go_meet
                    case rel => exact ⟨_, ((t483 != x6_1)), (by first | rfl | (simp; done) | (simp [*]; done)), H', ⟨by have := HK1.out; have := HK2.out; first | omega | exact Nat.le_refl _⟩, ⟨by (with_reducible repeat (first | apply Kd.R_alloc | apply Kd.R_drewN | apply Kd.R_drew)); exact Kd.R_mono HO_5.out (fun _ hk => hk.2)⟩, ⟨by (with_reducible repeat (first | refine blk_drewN ?_ _ | refine blk_drew ?_ | refine blk_alloc ?_ _)); exact BK480.out⟩, ⟨by repeat (first | (with_reducible first | exact HB.out | apply below_alloc | apply pw_below_drewN | apply below_drew1 | refine below_set ?_ GE480.out) | exact HB.out)⟩⟩
                  · rw [if_neg c16] at H
                    have c16b0 : (t482 == 0) = false := beq_eq_false_iff_ne.mpr c16
                    have c16b1 : (t482 != 0) = true := bne_iff_ne.mpr c16
                    have H' := Aside0.mk H
                    clear H
                    go_wp2
                    go_meet
                    case rel => exact ⟨_, (false), (by first | rfl | (simp; done) | (simp [*]; done)), H', ⟨by have := HK1.out; have := HK2.out; first | omega | exact Nat.le_refl _⟩, ⟨by (with_reducible repeat (first | apply Kd.R_alloc | apply Kd.R_drewN | apply Kd.R_drew)); exact Kd.R_mono HO_5.out (fun _ hk => hk.2)⟩, ⟨by (with_reducible repeat (first | refine blk_drewN ?_ _ | refine blk_drew ?_ | refine blk_alloc ?_ _)); exact BK480.out⟩, ⟨by repeat (first | (with_reducible first | exact HB.out | apply below_alloc | apply pw_below_drewN | apply below_drew1 | refine below_set ?_ GE480.out) | exact HB.out)⟩⟩
                · rw [if_neg c15] at H
                  have c15b0 : (t482 == t484) = false := beq_eq_false_iff_ne.mpr c15
                  have c15b1 : (t482 != t484) = true := bne_iff_ne.mpr c15
                  (first | rw [c15b0] | (simp only [i64_w, i32_w]; rw [c15b0]) | skip)
                  have H' := Aside0.mk H
                  clear H
                  go_wp2
                  go_meet
                  case rel => exact ⟨_, (true), (by first | rfl | (simp; done) | (simp [*]; done)), H', ⟨by have := HK1.out; have := HK2.out; first | omega | exact Nat.le_refl _⟩, ⟨by (with_reducible repeat (first | apply Kd.R_alloc | apply Kd.R_drewN | apply Kd.R_drew)); exact Kd.R_mono HO_5.out (fun _ hk => hk.2)⟩, ⟨by (with_reducible repeat (first | refine blk_drewN ?_ _ | refine blk_drew ?_ | refine blk_alloc ?_ _)); exact BK480.out⟩, ⟨by repeat (first | (with_reducible first | exact HB.out | apply below_alloc | apply pw_below_drewN | apply below_drew1 | refine below_set ?_ GE480.out) | exact HB.out)⟩⟩
              case rest =>
                clear HC9
                try clear c1
                try clear c2
                try clear p2
                try clear c5
                try clear c5b0
                try clear c6
                try clear c6b0
                try clear p6
                try clear c10
                try clear c12
                try clear c14
                try clear c15
                try clear c15b0
                try clear c15b1
                try clear c16
                try clear c16b0
                try clear c16b1
                try clear hcz11_0
                try clear hcz11_1
                try clear hcz11_2
                try clear hcz13_0
                try clear hcz13_1
                try clear hcz13_2
                try clear hfz11_0
                try clear hfz11_1
                try clear hfz11_2
                try clear hfz13_0
                try clear hfz13_1
                try clear hfz13_2
                try clear p2
                obtain ⟨kq, x55_8, rfl, HA, HJ8, HO_5, BK480, HB⟩ := hcut
                cases kq with
                | zero => exact absurd HA.out (by simp [partitalaw02_PitchNames.j2])
                | succ kj8 =>
                  have H := HA.out
                  clear HA
                  simp only [partitalaw02_PitchNames.j2] at H
                  by_cases c17 : x55_8 = true
                  · subst c17
                    have H1 : (some false) = some r := by rw [if_pos rfl] at H; exact H
                    clear H
                    have H := H1
                    clear H1
                    exact absurd H (by rw [HR_.out]; simp)
                  · replace c17 := Bool.eq_false_iff.mpr c17
                    subst c17
                    have H1 : (if t482 = 0 then (if t481 = t479 then (if x5_2.length < 5864062014805 then (partitalaw02_PitchNames.l1 kj8 t478 t479 (x5_2 ++ [(⟨(Int.tmod (wrap64 (x6_1 + 7)) 7), x7_2, (wrap64 ((wrap64 (Int.tdiv (wrap64 (x6_1 + 7)) 7)) - 1))⟩ : S23)]) x6_1 (wrap64 (x7_2 + 1))) else (none)) else (partitalaw02_PitchNames.l1 kj8 t478 t479 x5_2 x6_1 (wrap64 (x7_2 + 1)))) else (partitalaw02_PitchNames.l1 kj8 t478 t479 x5_2 x6_1 (wrap64 (x7_2 + 1)))) = some r := by rw [if_neg (show ¬ (false = true) by decide)] at H; exact H
                    clear H
                    have H := H1
                    clear H1
                    by_cases c18 : t482 = 0
                    · rw [if_pos c18] at H
                      have c18b0 : (t482 == 0) = true := beq_iff_eq.mpr c18
                      have c18b1 : (t482 != 0) = false := bne_eq_false_iff_eq.mpr c18
                      clear c18
                      by_cases c19 : t481 = t479
                      · rw [if_pos c19] at H
                        have c19b0 : (t481 == t479) = true := beq_iff_eq.mpr c19
                        have c19b1 : (t481 != t479) = false := bne_eq_false_iff_eq.mpr c19
                        clear c19
                        by_cases c20 : x5_2.length < 5864062014805
                        · rw [if_pos c20] at H
                          have LMc20 := Aside0.mk c20
                          clear c20
                          obtain ⟨y485, hy485⟩ : ∃ y_ : List (S23), y_ = (x5_2 ++ [(⟨(Int.tmod (wrap64 (x6_1 + 7)) 7), x7_2, (wrap64 ((wrap64 (Int.tdiv (wrap64 (x6_1 + 7)) 7)) - 1))⟩ : S23)]) := ⟨_, rfl⟩
                          replace H : (partitalaw02_PitchNames.l1 kj8 t478 t479 y485 x6_1 (wrap64 (x7_2 + 1))) = some r := by first | (rw [hy485]; with_reducible exact H) | (have H2_ := (Option.bind_some _ _).symm.trans H; rw [hy485]; with_reducible exact H2_) | (have H2_ := (Option.bind_some _ _).symm.trans H; with_reducible exact H2_) | with_reducible exact H | (rw [hy485]; exact H) | exact H
                          have Ny485 := Aside0.mk hy485
                          clear hy485
                          have H' := Aside0.mk H
                          clear H
                          have hcz21_0 : wc.cell? ⟨gb480, 0, none⟩ = some (.int .i64 (Int.tmod (wrap64 (x6_1 + 7)) 7)) := (blk_cell BK480.out 0).trans rfl
                          have hcz21_1 : wc.cell? ⟨gb480, 1, none⟩ = some (.int .i64 x7_2) := (blk_cell BK480.out 1).trans rfl
                          have hcz21_2 : wc.cell? ⟨gb480, 2, none⟩ = some (.int .i64 (wrap64 ((wrap64 (Int.tdiv (wrap64 (x6_1 + 7)) 7)) - 1))) := (blk_cell BK480.out 2).trans rfl
                          have hfz21_0 := blk_frozen BK480.out 0
                          have hfz21_1 := blk_frozen BK480.out 1
                          have hfz21_2 := blk_frozen BK480.out 2
                          go_wp2_with (first | ((with_reducible refine gate_builtin (b := .append) (xs := #[.tmp 63, .tmp 65]) rfl ?_); (try (refine gate_guard (by rfl) ?_; dsimp only)); at_builtin; refine Kd.R_append k23 (w0 := w) w.heap.size rfl (.tmp 63) (.tmp 65) 28 23 (.agg #[(.int .i64 0), (.int .i64 0), (.int .i64 0)]) 24 rfl Tryd.underlying28 info23 rfl (by decide) (by omega) u5 x5_2 (⟨(Int.tmod (wrap64 (x6_1 + 7)) 7), x7_2, (wrap64 ((wrap64 (Int.tdiv (wrap64 (x6_1 + 7)) 7)) - 1))⟩ : S23) [.int .i64 (Int.tmod (wrap64 (x6_1 + 7)) 7), .int .i64 x7_2, .int .i64 (wrap64 ((wrap64 (Int.tdiv (wrap64 (x6_1 + 7)) 7)) - 1))] (fun k_ => k_ ≠ gb480) (fun _ => False) rfl rfl ?aP (fun _ hk => hk.elim) ?aF ?aO ?aB ?aS ?aL ?_; (case aP => exact k23_mkM _ _ _ (⟨(Int.tmod (wrap64 (x6_1 + 7)) 7), x7_2, (wrap64 ((wrap64 (Int.tdiv (wrap64 (x6_1 + 7)) 7)) - 1))⟩ : S23)); (case aB => exact (by repeat (first | (with_reducible first | exact HB.out | apply below_alloc | apply pw_below_drewN | apply below_drew1 | refine below_set ?_ GE480.out) | exact HB.out))); (case aF => exact (fun k_ hk => Kd.freshB (g := gb480) (o := .cells #[.int .i64 (Int.tmod (wrap64 (x6_1 + 7)) 7), .int .i64 x7_2, .int .i64 (wrap64 ((wrap64 (Int.tdiv (wrap64 (x6_1 + 7)) 7)) - 1))] 23 (0, 0)) (by (with_reducible repeat (first | refine blk_drewN ?_ _ | refine blk_drew ?_ | refine blk_alloc ?_ _)); exact BK480.out) k_ hk)); (case aO => exact (by (with_reducible repeat (first | apply Kd.R_alloc | apply Kd.R_drewN | apply Kd.R_drew)); exact HO_5.out)); (case aS => exact (below_size (by repeat (first | (with_reducible first | exact HB.out | apply below_alloc | apply pw_below_drewN | apply below_drew1 | refine below_set ?_ GE480.out) | exact HB.out)))); (case aL => have := LMc20.out; omega); intro v486 w22 ho hb hg hat; rw [← Ny485.out] at ho; have n0_ := Aside0.mk (blk_grown (g := gb480) (o := .cells #[.int .i64 (Int.tmod (wrap64 (x6_1 + 7)) 7), .int .i64 x7_2, .int .i64 (wrap64 ((wrap64 (Int.tdiv (wrap64 (x6_1 + 7)) 7)) - 1))] 23 (0, 0)) (by (with_reducible repeat (first | refine blk_drewN ?_ _ | refine blk_drew ?_ | refine blk_alloc ?_ _)); exact BK480.out) hg (Kd.R_away HO_5.out (fun _ hk => hk))); have n1_ := Aside0.mk (hb); have n2_ := Aside0.mk (ho); clear BK480; clear HB; clear HO_5; have BK480 := n0_; have HB := n1_; have HO487 := n2_; clear n0_ n1_ n2_; clear ho hb hg hat))
                          go_roundg kj8
                          case measure => have := HK1.out; have := HK2.out; have := HJ8.out; omega
                          case rel => exact ⟨(y485), (wrap64 (x7_2 + 1)), (by first | rfl | (simp; done) | (simp [*]; done)), H', ⟨by have := HK1.out; have := HK2.out; have := HJ8.out; omega⟩, ⟨by (with_reducible repeat (first | apply Kd.R_alloc | apply Kd.R_drewN | apply Kd.R_drew)); exact Kd.R_mono HO487.out (fun _ hk => trivial)⟩, ⟨by repeat (first | (with_reducible first | exact HB.out | apply below_alloc | apply pw_below_drewN | apply below_drew1 | refine below_set ?_ GE480.out) | exact HB.out)⟩⟩
                        · rw [if_neg c20] at H
                          exact absurd H (by simp)
                      · rw [if_neg c19] at H
                        have c19b0 : (t481 == t479) = false := beq_eq_false_iff_ne.mpr c19
                        have c19b1 : (t481 != t479) = true := bne_iff_ne.mpr c19
                        have H' := Aside0.mk H
                        clear H
                        go_wp2
                        go_roundg kj8
                        case measure => have := HK1.out; have := HK2.out; have := HJ8.out; omega
                        case rel => exact ⟨(x5_2), (wrap64 (x7_2 + 1)), (by first | rfl | (simp; done) | (simp [*]; done)), H', ⟨by have := HK1.out; have := HK2.out; have := HJ8.out; omega⟩, ⟨by (with_reducible repeat (first | apply Kd.R_alloc | apply Kd.R_drewN | apply Kd.R_drew)); exact Kd.R_mono HO_5.out (fun _ hk => trivial)⟩, ⟨by repeat (first | (with_reducible first | exact HB.out | apply below_alloc | apply pw_below_drewN | apply below_drew1 | refine below_set ?_ GE480.out) | exact HB.out)⟩⟩
                    · rw [if_neg c18] at H
                      have c18b0 : (t482 == 0) = false := beq_eq_false_iff_ne.mpr c18
                      have c18b1 : (t482 != 0) = true := bne_iff_ne.mpr c18
                      have H' := Aside0.mk H
                      clear H
                      go_wp2
                      go_roundg kj8
                      case measure => have := HK1.out; have := HK2.out; have := HJ8.out; omega
                      case rel => exact ⟨(x5_2), (wrap64 (x7_2 + 1)), (by first | rfl | (simp; done) | (simp [*]; done)), H', ⟨by have := HK1.out; have := HK2.out; have := HJ8.out; omega⟩, ⟨by (with_reducible repeat (first | apply Kd.R_alloc | apply Kd.R_drewN | apply Kd.R_drew)); exact Kd.R_mono HO_5.out (fun _ hk => trivial)⟩, ⟨by repeat (first | (with_reducible first | exact HB.out | apply below_alloc | apply pw_below_drewN | apply below_drew1 | refine below_set ?_ GE480.out) | exact HB.out)⟩⟩
            · rw [if_neg c6] at H
              have c6b0 : decide (x7_2 ≤ 2) = false := decide_eq_false c6
              clear c6
              have H' := Aside0.mk H
              clear H
              go_wp2
              go_roundg k2
              case measure => have := HK1.out; have := HK2.out; omega
              case rel => exact ⟨(x5_2), (wrap64 (x6_1 + 1)), (by first | rfl | (simp; done) | (simp [*]; done)), H', ⟨by have := HK1.out; have := HK2.out; omega⟩, ⟨by (with_reducible repeat (first | apply Kd.R_alloc | apply Kd.R_drewN | apply Kd.R_drew)); exact HO_5.out⟩, ⟨by repeat (first | (with_reducible first | exact HB.out | apply below_alloc | apply pw_below_drewN | apply below_drew1) | exact HB.out)⟩⟩
      · rw [if_neg c5] at H
        have c5b0 : decide (x6_1 < 70) = false := decide_eq_false c5
        clear c5
        have H' := Aside0.mk H
        clear H
        go_wp2
        go_loopg [13] k1 (fun kq v13 w' => ∃ (x13_2 : Int), v13 = .int .i64 x13_2 ∧ Aside0 (partitalaw02_PitchNames.l2 kq t478 t479 x5_1 x13_2 = some r) ∧ Aside0 (kq ≤ k1) ∧ Aside0 (Kd.R k23 23 w' w.heap.size (fun _ => True) u5 x5_1) ∧ Aside0 (Below w.heap.size w w'))
        case atStart => exact ⟨(1), (by first | rfl | (simp; done) | (simp [*]; done)), H', ⟨Nat.le_refl _⟩, ⟨by (with_reducible repeat (first | apply Kd.R_alloc | apply Kd.R_drewN | apply Kd.R_drew)); exact HO_5.out⟩, ⟨by repeat (first | (with_reducible first | exact HB.out | apply below_alloc | apply pw_below_drewN | apply below_drew1) | exact HB.out)⟩⟩
        case round =>
          clear H'
          try clear c1
          try clear c2
          try clear p2
          try clear c5
          try clear c5b0
          try clear c6
          try clear c6b0
          try clear p6
          try clear c10
          try clear c12
          try clear c14
          try clear c15
          try clear c15b0
          try clear c15b1
          try clear c16
          try clear c16b0
          try clear c16b1
          try clear c17
          try clear c18
          try clear c18b0
          try clear c18b1
          try clear c19
          try clear c19b0
          try clear c19b1
          try clear c20
          try clear c22
          try clear hcz11_0
          try clear hcz11_1
          try clear hcz11_2
          try clear hcz13_0
          try clear hcz13_1
          try clear hcz13_2
          try clear hcz21_0
          try clear hcz21_1
          try clear hcz21_2
          try clear hfz11_0
          try clear hfz11_1
          try clear hfz11_2
          try clear hfz13_0
          try clear hfz13_1
          try clear hfz13_2
          try clear hfz21_0
          try clear hfz21_1
          try clear hfz21_2
          try clear p2
          try clear p6
          obtain ⟨x13_2, rfl, HA, HK2, HO_5, HB⟩ := hrel
          cases gk with
          | zero => exact absurd HA.out (by simp [partitalaw02_PitchNames.l2])
          | succ k2 =>
            have H := HA.out
            clear HA
            simp only [partitalaw02_PitchNames.l2] at H
            by_cases c23 : x13_2 < (x5_1.length : Int)
            · rw [if_pos c23] at H
              have c23b0 : decide (x13_2 < (x5_1.length : Int)) = true := decide_eq_true c23
              clear c23
              obtain ⟨ji24, hji24⟩ : ∃ j_ : Int, (wrap64 (x13_2 - 1)) = j_ := ⟨_, rfl⟩
              replace H : (if 0 ≤ (ji24) then (if (ji24) < (x5_1.length : Int) then (if 0 ≤ x13_2 then ((pitch_Compare.f k2 ((rd_T23 x5_1 (ji24)).f0) ((rd_T23 x5_1 (ji24)).f1) ((rd_T23 x5_1 (ji24)).f2) ((rd_T23 x5_1 x13_2).f0) ((rd_T23 x5_1 x13_2).f1) ((rd_T23 x5_1 x13_2).f2)).bind fun t490 => (if t490 = (-1) then (partitalaw02_PitchNames.l2 k2 t478 t479 x5_1 (wrap64 (x13_2 + 1))) else (some false))) else (none)) else (none)) else (none)) = some r := by first | (rw [hji24] at H; exact H) | (simp only [hji24] at H ⊢; exact H)
              have hji24w : (IntKind.i64.wrap (x13_2 - 1)) = ji24 := (i64_w _).trans hji24
              by_cases c25 : 0 ≤ (ji24)
              · rw [if_pos c25] at H
                have c25b0 : decide (0 ≤ (ji24)) = true := decide_eq_true c25
                clear c25
                by_cases c26 : (ji24) < (x5_1.length : Int)
                · rw [if_pos c26] at H
                  have c26b0 : decide ((ji24) < (x5_1.length : Int)) = true := decide_eq_true c26
                  clear c26
                  by_cases c27 : 0 ≤ x13_2
                  · rw [if_pos c27] at H
                    have c27b0 : decide (0 ≤ x13_2) = true := decide_eq_true c27
                    clear c27
                    replace H := Option.bind_eq_some_iff.mp H
                    obtain ⟨t490, A280, H⟩ := H
                    replace H : (if t490 = (-1) then (partitalaw02_PitchNames.l2 k2 t478 t479 x5_1 (wrap64 (x13_2 + 1))) else (some false)) = some r := H
                    have A28 := Aside0.mk A280
                    clear A280
                    by_cases c29 : t490 = (-1)
                    · rw [if_pos c29] at H
                      have c29b0 : (t490 == (-1)) = true := beq_iff_eq.mpr c29
                      have c29b1 : (t490 != (-1)) = false := bne_eq_false_iff_eq.mpr c29
                      clear c29
                      have H' := Aside0.mk H
                      clear H
                      obtain ⟨Ao30, co30, eo30⟩ := Kd.R_slice HO_5.out
                      subst eo30
                      try go_wp2
                      have n0_ := Aside0.mk (Kd.R_drew HO_5.out)
                      have n1_ := Aside0.mk (below_drew1 HB.out)
                      clear HO_5
                      clear HB
                      have HO_5 := n0_
                      have HB := n1_
                      clear n0_ n1_
                      have p488 : 0 ≤ ((ji24) : Int) := of_decide_eq_true (by first | (with_reducible assumption) | assumption)
                      have q488 : (ji24) < (x5_1.length : Int) := of_decide_eq_true (by first | (with_reducible assumption) | assumption)
                      obtain ⟨ad488, e488, hx488_0, hx488_1, hx488_2⟩ := at_T23 (Kd.R_reads' HO_5.out).2.2 (ji24) p488 q488
                      cases e488
                      replace p488 := eq_true p488
                      replace q488 := eq_true q488
                      have p489 : 0 ≤ (x13_2 : Int) := of_decide_eq_true (by first | (with_reducible assumption) | assumption)
                      have q489 : x13_2 < (x5_1.length : Int) := of_decide_eq_true (by first | (with_reducible assumption) | assumption)
                      obtain ⟨ad489, e489, hx489_0, hx489_1, hx489_2⟩ := at_T23 (Kd.R_reads' HO_5.out).2.2 x13_2 p489 q489
                      obtain rfl : ad488 = ad489 := (by injection e489)
                      replace p489 := eq_true p489
                      replace q489 := eq_true q489
                      refine start_ (n := 11) (S := fun w' => w'.cell? (ad488.add (((ji24)).toNat * 3)) = some (.int .i64 ((rd_T23 x5_1 (ji24)).f0)) ∧ w'.cell? ⟨(ad488.add (((ji24)).toNat * 3)).block, (ad488.add (((ji24)).toNat * 3)).off + 1, none⟩ = some (.int .i64 ((rd_T23 x5_1 (ji24)).f1)) ∧ w'.cell? ⟨(ad488.add (((ji24)).toNat * 3)).block, (ad488.add (((ji24)).toNat * 3)).off + 2, none⟩ = some (.int .i64 ((rd_T23 x5_1 (ji24)).f2)) ∧ w'.cell? (ad488.add ((x13_2).toNat * 3)) = some (.int .i64 ((rd_T23 x5_1 x13_2).f0)) ∧ w'.cell? ⟨(ad488.add ((x13_2).toNat * 3)).block, (ad488.add ((x13_2).toNat * 3)).off + 1, none⟩ = some (.int .i64 ((rd_T23 x5_1 x13_2).f1)) ∧ w'.cell? ⟨(ad488.add ((x13_2).toNat * 3)).block, (ad488.add ((x13_2).toNat * 3)).off + 2, none⟩ = some (.int .i64 ((rd_T23 x5_1 x13_2).f2))) (ds := []) #[false, false, false, false, false, false, false, false, false, false, false] (by kernel_rfl) rfl rfl ⟨hx488_0, hx488_1, hx488_2, hx489_0, hx489_1, hx489_2⟩ (fun hHeld => ?_); refine with_tabW partitalaw02_PitchNames.tab20 partitalaw02_PitchNames.bits20 (fun HT_ HW_ => ?_)
                      generalize wr.drew = w31 at HO_5 HB hx488_0 hx488_1 hx488_2 hx489_0 hx489_1 hx489_2 hHeld ⊢
                      refine pure_ (i := 0) (N := some 73) (v := ?_) (a' := ?_) #[true, false, false, false, false, false, false, false, false, false, false] rfl rfl (any_of HT_.out (by kernel_rfl)) (fun _ _ _ h => h) (Or.inl ⟨by rfl, ?_⟩) ?_ ?_
                      rotate_left
                      · intro w'
                        go_simp
                        with_reducible rfl
                      rotate_left
                      · simp only [Act.put, List.setIfInBounds_toArray, List.set_cons_zero, List.set_cons_succ, i64_w, i32_w]
                        rfl
                      refine pure_ (i := 1) (N := some 74) (v := ?_) (a' := ?_) #[true, true, false, false, false, false, false, false, false, false, false] rfl rfl (any_of HT_.out (by kernel_rfl)) (fun _ _ _ h => h) (Or.inl ⟨by rfl, ?_⟩) ?_ ?_
                      rotate_left
                      · intro w'
                        go_simp
                        with_reducible rfl
                      rotate_left
                      · simp only [Act.put, List.setIfInBounds_toArray, List.set_cons_zero, List.set_cons_succ, i64_w, i32_w]
                        rfl
                      refine pure_ (i := 2) (N := some 75) (v := ?_) (a' := ?_) #[true, true, true, false, false, false, false, false, false, false, false] rfl rfl (any_of HT_.out (by kernel_rfl)) (fun _ _ _ h => h) (Or.inl ⟨by rfl, ?_⟩) ?_ ?_
                      rotate_left
                      · intro w'
                        go_simp
                        with_reducible rfl
                      rotate_left
                      · simp only [Act.put, List.setIfInBounds_toArray, List.set_cons_zero, List.set_cons_succ, i64_w, i32_w]
                        rfl
                      refine pure_ (i := 3) (N := some 76) (v := ?_) (a' := ?_) #[true, true, true, true, false, false, false, false, false, false, false] rfl rfl (any_of HT_.out (by kernel_rfl)) (fun _ _ _ h => h) (Or.inl ⟨by rfl, ?_⟩) ?_ ?_
                      rotate_left
                      · intro w'
                        go_simp
                        with_reducible rfl
                      rotate_left
                      · simp only [Act.put, List.setIfInBounds_toArray, List.set_cons_zero, List.set_cons_succ, i64_w, i32_w]
                        rfl
                      refine pure_ (i := 5) (N := some 78) (v := ?_) (a' := ?_) #[true, true, true, true, false, true, false, false, false, false, false] rfl rfl (any_of HT_.out (by kernel_rfl)) (fun _ _ _ h => h) (Or.inl ⟨by rfl, ?_⟩) ?_ ?_
                      rotate_left
                      · intro w'
                        go_simp
                        with_reducible rfl
                      rotate_left
                      · simp only [Act.put, List.setIfInBounds_toArray, List.set_cons_zero, List.set_cons_succ, i64_w, i32_w]
                        rfl
                      refine pure_ (i := 6) (N := some 79) (v := ?_) (a' := ?_) #[true, true, true, true, false, true, true, false, false, false, false] rfl rfl (any_of HT_.out (by kernel_rfl)) (fun _ _ _ h => h) (Or.inl ⟨by rfl, ?_⟩) ?_ ?_
                      rotate_left
                      · intro w'
                        go_simp
                        with_reducible rfl
                      rotate_left
                      · simp only [Act.put, List.setIfInBounds_toArray, List.set_cons_zero, List.set_cons_succ, i64_w, i32_w]
                        rfl
                      refine pure_ (i := 7) (N := some 80) (v := ?_) (a' := ?_) #[true, true, true, true, false, true, true, true, false, false, false] rfl rfl (any_of HT_.out (by kernel_rfl)) (fun _ _ _ h => h) (Or.inl ⟨by rfl, ?_⟩) ?_ ?_
                      rotate_left
                      · intro w'
                        go_simp
                        with_reducible rfl
                      rotate_left
                      · simp only [Act.put, List.setIfInBounds_toArray, List.set_cons_zero, List.set_cons_succ, i64_w, i32_w]
                        rfl
                      refine take_ (i := 4) (N := some 77) (v := ?_) (a' := ?_) #[true, true, true, true, true, true, true, true, false, false, false] rfl rfl (take_ofW HT_.out HW_.out (by kernel_rfl)) (fun _ _ _ h => h) (Or.inl ⟨by rfl, ?_⟩) hHeld ?_ ?_
                      rotate_left
                      · rintro w' ⟨s0, s1, s2, s3, s4, s5⟩
                        go_simp
                        with_reducible rfl
                      rotate_left
                      · simp only [Act.put, List.setIfInBounds_toArray, List.set_cons_zero, List.set_cons_succ, i64_w, i32_w]
                        rfl
                      refine take_ (i := 8) (N := some 81) (v := ?_) (a' := ?_) #[true, true, true, true, true, true, true, true, true, false, false] rfl rfl (take_ofW HT_.out HW_.out (by kernel_rfl)) (fun _ _ _ h => h) (Or.inl ⟨by rfl, ?_⟩) hHeld ?_ ?_
                      rotate_left
                      · rintro w' ⟨s0, s1, s2, s3, s4, s5⟩
                        go_simp
                        with_reducible rfl
                      rotate_left
                      · simp only [Act.put, List.setIfInBounds_toArray, List.set_cons_zero, List.set_cons_succ, i64_w, i32_w]
                        rfl
                      refine one_ (i := 9) (N := some 82) #[true, true, true, true, true, true, true, true, true, true, false] rfl rfl (one_of HT_.out (by kernel_rfl)) (by decide) (fun K hK => ?_)
                      refine goes_ Tryd.func27 (by kernel_rfl) rfl #[.agg #[.int .i64 ((rd_T23 x5_1 (ji24)).f0), .int .i64 ((rd_T23 x5_1 (ji24)).f1), .int .i64 ((rd_T23 x5_1 (ji24)).f2)], .agg #[.int .i64 ((rd_T23 x5_1 x13_2).f0), .int .i64 ((rd_T23 x5_1 x13_2).f1), .int .i64 ((rd_T23 x5_1 x13_2).f2)]] (by rfl) rfl rfl (by (try simp only [List.map_toArray, List.map_cons, List.map_nil]); first | done | (simp only [hji24]; rfl) | rfl | (simp only [List.length_drop, List.length_take]; rfl)) ?_
                      with_reducible refine (pitch_Compare.calls k2 ((rd_T23 x5_1 (ji24)).f0) ((rd_T23 x5_1 (ji24)).f1) ((rd_T23 x5_1 (ji24)).f2) ((rd_T23 x5_1 x13_2).f0) ((rd_T23 x5_1 x13_2).f1) ((rd_T23 x5_1 x13_2).f2) t490 _ ?side1 A28.out).mono ?_
                      (case side1 => exact GW.step HG_.out (by repeat (first | (with_reducible first | exact HB.out | apply below_alloc | apply pw_below_drewN | apply below_drew1) | exact HB.out)))
                      rintro e w32 ⟨rfl, hb⟩
                      have HS0_ := (hb.cell (World.block_lt_of_cell? _ _ (hHeld.1))).trans (hHeld.1)
                      have HS1_ := (hb.cell (World.block_lt_of_cell? _ _ (hHeld.2.1))).trans (hHeld.2.1)
                      have HS2_ := (hb.cell (World.block_lt_of_cell? _ _ (hHeld.2.2.1))).trans (hHeld.2.2.1)
                      have HS3_ := (hb.cell (World.block_lt_of_cell? _ _ (hHeld.2.2.2.1))).trans (hHeld.2.2.2.1)
                      have HS4_ := (hb.cell (World.block_lt_of_cell? _ _ (hHeld.2.2.2.2.1))).trans (hHeld.2.2.2.2.1)
                      have HS5_ := (hb.cell (World.block_lt_of_cell? _ _ (hHeld.2.2.2.2.2))).trans (hHeld.2.2.2.2.2)
                      refine ⟨_, rfl, ?_⟩
                      have n0_ := Aside0.mk (Kd.R_below (by (with_reducible repeat (first | apply Kd.R_alloc | apply Kd.R_drewN | apply Kd.R_drew)); exact HO_5.out) hb)
                      have n1_ := Aside0.mk (below_step (by repeat (first | (with_reducible first | exact HB.out | apply below_alloc | apply pw_below_drewN | apply below_drew1) | exact HB.out)) hb)
                      clear HO_5
                      clear HB
                      have HO_5 := n0_
                      have HB := n1_
                      clear n0_ n1_
                      (try clear hb)
                      (try clear hb2)
                      (try clear hk)
                      (try clear hi)
                      refine hK.out _ _ ⟨HS0_, HS1_, HS2_, HS3_, HS4_, HS5_⟩ (fun hHeld => ?_)
                      clear hK K
                      refine norm_ (a' := ?_) ?_ ?_
                      rotate_left
                      · show Act.put _ (some 82) _ = _
                        simp only [Act.put, List.setIfInBounds_toArray, List.set_cons_zero, List.set_cons_succ, i64_w, i32_w]
                        rfl
                      refine pure_ (i := 10) (N := some 83) (v := ?_) (a' := ?_) #[true, true, true, true, true, true, true, true, true, true, true] rfl rfl (any_of HT_.out (by kernel_rfl)) (fun _ _ _ h => h) (Or.inl ⟨by rfl, ?_⟩) ?_ ?_
                      rotate_left
                      · intro w'
                        go_simp
                        with_reducible rfl
                      rotate_left
                      · simp only [Act.put, List.setIfInBounds_toArray, List.set_cons_zero, List.set_cons_succ, i64_w, i32_w]
                        rfl
                      refine done_ (done_of HT_.out (by kernel_rfl)) ?_
                      try go_wp2
                      go_roundg k2
                      case measure => have := HK1.out; have := HK2.out; omega
                      case rel => exact ⟨(wrap64 (x13_2 + 1)), (by first | rfl | (simp; done) | (simp [*]; done)), H', ⟨by have := HK1.out; have := HK2.out; omega⟩, ⟨by (with_reducible repeat (first | apply Kd.R_alloc | apply Kd.R_drewN | apply Kd.R_drew)); exact HO_5.out⟩, ⟨by repeat (first | (with_reducible first | exact HB.out | apply below_alloc | apply pw_below_drewN | apply below_drew1) | exact HB.out)⟩⟩
                    · rw [if_neg c29] at H
                      have c29b0 : (t490 == (-1)) = false := beq_eq_false_iff_ne.mpr c29
                      have c29b1 : (t490 != (-1)) = true := bne_iff_ne.mpr c29
                      exact absurd H (by rw [HR_.out]; simp)
                  · rw [if_neg c27] at H
                    exact absurd H (by simp)
                · rw [if_neg c26] at H
                  exact absurd H (by simp)
              · rw [if_neg c25] at H
                exact absurd H (by simp)
            · rw [if_neg c23] at H
              have c23b0 : decide (x13_2 < (x5_1.length : Int)) = false := decide_eq_false c23
              clear c23
              by_cases c33 : t479 > 127
              · rw [if_pos c33] at H
                have c33b0 : decide (127 < t479) = true := decide_eq_true c33
                clear c33
                by_cases c34 : t478 = true
                · subst c34
                  have H1 : (some ((x5_1.length : Int) == 0)) = some r := by rw [if_pos rfl] at H; exact H
                  clear H
                  have H := H1
                  clear H1
                  obtain rfl := Option.some.inj H
                  obtain ⟨Ao35, co35, eo35⟩ := Kd.R_slice HO_5.out
                  subst eo35
                  go_wp2
                  go_ret
                  exact ⟨by first | rfl | (simp [errW_none, errW_some] <;> rfl) | (simp [*, errW_none, errW_some] <;> rfl), by repeat (first | (with_reducible first | exact HB.out | apply below_alloc | apply pw_below_drewN | apply below_drew1) | exact HB.out)⟩
                · replace c34 := Bool.eq_false_iff.mpr c34
                  subst c34
                  have H1 : (some false) = some r := by rw [if_neg (show ¬ (false = true) by decide)] at H; exact H
                  clear H
                  have H := H1
                  clear H1
                  exact absurd H (by rw [HR_.out]; simp)
              · rw [if_neg c33] at H
                have c33b0 : decide (127 < t479) = false := decide_eq_false c33
                clear c33
                by_cases c36 : t478 = true
                · subst c36
                  have H1 : (if (x5_1.length : Int) ≥ 1 then (some (decide ((x5_1.length : Int) ≤ 3))) else (some false)) = some r := by rw [if_pos rfl] at H; exact H
                  clear H
                  have H := H1
                  clear H1
                  by_cases c37 : (x5_1.length : Int) ≥ 1
                  · rw [if_pos c37] at H
                    have c37b0 : decide (1 ≤ (x5_1.length : Int)) = true := decide_eq_true c37
                    have c37b1 : decide (1 ≤ x5_1.length) = true := decide_eq_true (by omega)
                    clear c37
                    obtain rfl := Option.some.inj H
                    obtain ⟨Ao38, co38, eo38⟩ := Kd.R_slice HO_5.out
                    subst eo38
                    go_wp2
                    go_ret
                    exact ⟨by first | rfl | (simp [errW_none, errW_some] <;> rfl) | (simp [*, errW_none, errW_some] <;> rfl), by repeat (first | (with_reducible first | exact HB.out | apply below_alloc | apply pw_below_drewN | apply below_drew1) | exact HB.out)⟩
                  · rw [if_neg c37] at H
                    have c37b0 : decide (1 ≤ (x5_1.length : Int)) = false := decide_eq_false c37
                    have c37b1 : decide (1 ≤ x5_1.length) = false := decide_eq_false (by omega)
                    clear c37
                    exact absurd H (by rw [HR_.out]; simp)
                · replace c36 := Bool.eq_false_iff.mpr c36
                  subst c36
                  have H1 : (some false) = some r := by rw [if_neg (show ¬ (false = true) by decide)] at H; exact H
                  clear H
                  have H := H1
                  clear H1
                  exact absurd H (by rw [HR_.out]; simp)

/-- THE ONE PURE STATEMENT of partitalaw02_PitchNames: yours. -/
def partitalaw02_PitchNames.Pure : Prop := ∀ (a0 : Int), (Lit.int .i64 a0).wf = true → ∃ k, partitalaw02_PitchNames.f k a0 = some true
theorem partitalaw02_PitchNames.walk (P : partitalaw02_PitchNames.Pure) (a0 : Int) (w : World) (hG_ : GW w) (w0 : (Lit.int .i64 a0).wf = true) :
    Calls Tryd.prog 10 #[.int .i64 a0] w fun e w' => e = .returned (.bool true) ∧ Below w.heap.size w w' := by
  obtain ⟨k, h⟩ := P a0 w0
  refine (partitalaw02_PitchNames.calls k a0 true w rfl hG_ h).mono ?_
  rintro e w' ⟨rfl, hd⟩
  exact ⟨rfl, hd⟩

end Go.Proofs.YtnpinngdiipogaaDoor.M
