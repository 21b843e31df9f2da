-- Written by wip/mprint.py, this session's own program, over the translation. Lean checks it.
import Derived.Test.YtnpinngdiipogaaDoorM0
import Derived.Test.YtnpinngdiipogaaDoorM1
import Derived.Test.YtnpinngdiipogaaDoorM3
import Derived.Test.YtnpinngdiipogaaDoorM5
import Derived.Test.YtnpinngdiipogaaDoorM10
import Derived.Test.YtnpinngdiipogaaDoorM11
import Derived.Test.YtnpinngdiipogaaDoorM12
import Derived.Test.YtnpinngdiipogaaDoorGRead
namespace Go.Proofs.YtnpinngdiipogaaDoor.M
open Go.RowKit Go.Proofs.YtnpinngdiipogaaDoorW.PrintWords Go.Proofs.YtnpinngdiipogaaDoorW.PrintLast Go.Proofs.YtnpinngdiipogaaDoorW.PrintMore
attribute [local go_sem] max2_int min2_int max_two min_two max_three min_three max_four min_four   -- for this text's walks alone
set_option linter.unusedVariables false
set_option linter.unusedSimpArgs false

attribute [local go_sem high] eqA23
/-! ### partitalaw02_PitchForms: function 5 -/
mutual
def partitalaw02_PitchForms.j0 : Nat → ByteArray → Int → Int → Bool → ByteArray → Bool → Option (Bool)
  | 0, _, _, _, _, _, _ => none
  | k + 1, x0, x2, x3, x9, x10, x31 => if x31 = true then (some false) else ((partitalaw02_pick.f x2 (wrap64 ((x10.size : Int) + 1))).bind fun t331 => (if 0 ≤ (mn (x0.size : Int) 20) then (if (mn (x0.size : Int) 20) ≤ (x0.size : Int) then (if 0 ≤ t331 then (if t331 ≤ (x10.size : Int) then ((some (([x3] : List Int) : List Int)).bind fun y332 => (if (x10.extract 0 (t331 : Int).toNat).size + (strOfNums y332).size ≤ 9223372036854775807 then (if ((x10.extract 0 (t331 : Int).toNat) ++ (strOfNums y332)).size + (x10.extract (t331 : Int).toNat x10.size).size ≤ 9223372036854775807 then (if 0 ≤ (wrap64 (Int.tdiv t331 2)) then (if (wrap64 (Int.tdiv t331 2)) ≤ (x10.size : Int) then (if 0 ≤ (wrap64 ((wrap64 (Int.tdiv t331 2)) + 1)) then (if (wrap64 ((wrap64 (Int.tdiv t331 2)) + 1)) ≤ (x10.size : Int) then (if (x10.extract 0 ((wrap64 (Int.tdiv t331 2)) : Int).toNat).size + (x10.extract ((wrap64 ((wrap64 (Int.tdiv t331 2)) + 1)) : Int).toNat x10.size).size ≤ 9223372036854775807 then ((some (([x0.extract 0 ((mn (x0.size : Int) 20) : Int).toNat, ((x10.extract 0 (t331 : Int).toNat) ++ (strOfNums y332)) ++ (x10.extract (t331 : Int).toNat x10.size), (x10.extract 0 ((wrap64 (Int.tdiv t331 2)) : Int).toNat) ++ (x10.extract ((wrap64 ((wrap64 (Int.tdiv t331 2)) + 1)) : Int).toNat x10.size)] : List ByteArray) : List ByteArray)).bind fun y335 => (partitalaw02_PitchForms.l0 k x9 x10 y335 (y335.length : Int) 0)) else (none)) else (none)) else (none)) else (none)) else (none)) else (none)) else (none))) else (none)) else (none)) else (none)) else (none)))
def partitalaw02_PitchForms.l0 : Nat → Bool → ByteArray → List ByteArray → Int → Int → Option (Bool)
  | 0, _, _, _, _, _ => none
  | k + 1, x9, x10, x63, x64, x65 => if x65 < x64 then (if 0 ≤ x65 then (if x65 < (x63.length : Int) then ((pitch_Read.f (rdOf ByteArray.empty x63 x65)).bind fun bt339 => (if bt339.2.2.2 = 0 then ((pitch_Text.f bt339.1 bt339.2.1 bt339.2.2.1).bind fun bt344 => (if bt344.2 = 0 then (if bt344.1.toList = (rdOf ByteArray.empty x63 x65).toList then ((pitch_Right.f bt339.1 bt339.2.1 bt339.2.2.1).bind fun t346 => (if t346 = true then (if (rdOf ByteArray.empty x63 x65).toList = x10.toList then (if x9 = true then (some (bt344.1.toList == (rdOf ByteArray.empty x63 x65).toList)) else (some false)) else (partitalaw02_PitchForms.l0 k x9 x10 x63 x64 (wrap64 (x65 + 1)))) else (if x9 = true then (if (rdOf ByteArray.empty x63 x65).toList = x10.toList then (some (bt344.1.toList == (rdOf ByteArray.empty x63 x65).toList)) else (some false)) else (some false)))) else (if x9 = true then (if (rdOf ByteArray.empty x63 x65).toList = x10.toList then (some (bt344.1.toList == (rdOf ByteArray.empty x63 x65).toList)) else (some false)) else (some false))) else (if x9 = true then (if (rdOf ByteArray.empty x63 x65).toList = x10.toList then (some false) else (some false)) else (some false)))) else (if bt339.2.2.2 = 21 then (if (!(bt339.1 == 0) || (!(bt339.2.1 == 0) || (!(bt339.2.2.1 == 0)))) = true then (some false) else (partitalaw02_PitchForms.l0 k x9 x10 x63 x64 (wrap64 (x65 + 1)))) else (some false)))) else (none)) else (none)) else (some x9)
end
def partitalaw02_PitchForms.f (k : Nat) (a0 : ByteArray) (a1_0 : Int) (a1_1 : Int) (a1_2 : Int) (a2 : Int) (a3 : Int) : Option (Bool) := (partitalaw02_awake.f k).bind fun t325 => ((partitalaw02_Pitch.f a1_0 a1_1 a1_2).bind fun bt326 => ((pitch_Text.f bt326.1 bt326.2.1 bt326.2.2).bind fun bt329 => (if bt329.2 = 0 then (partitalaw02_PitchForms.j0 k a0 a2 a3 t325 bt329.1 (bt329.1.toList == ([] : List UInt8))) else (partitalaw02_PitchForms.j0 k a0 a2 a3 t325 bt329.1 true))))
theorem partitalaw02_PitchForms.mono_l : ∀ k, (∀ y0 y1 y2 y3 y4 y5, LeO (partitalaw02_PitchForms.j0 k y0 y1 y2 y3 y4 y5) (partitalaw02_PitchForms.j0 (k + 1) y0 y1 y2 y3 y4 y5)) ∧ (∀ y0 y1 y2 y3 y4, LeO (partitalaw02_PitchForms.l0 k y0 y1 y2 y3 y4) (partitalaw02_PitchForms.l0 (k + 1) y0 y1 y2 y3 y4))
  | 0 => ⟨fun _ _ _ _ _ _ r h => by simp [partitalaw02_PitchForms.j0] at h, fun _ _ _ _ _ r h => by simp [partitalaw02_PitchForms.l0] at h⟩
  | k + 1 => by
    obtain ⟨ih0, ih1⟩ := partitalaw02_PitchForms.mono_l k
    refine ⟨?_, ?_⟩
    · intro y0 y1 y2 y3 y4 y5
      unfold partitalaw02_PitchForms.j0
      repeat' first
      | (with_reducible exact ih0 _ _ _ _ _ _)
      | (with_reducible exact ih1 _ _ _ _ _)
      | (with_reducible exact partitalaw02_awake.mono _)
      | (with_reducible exact LeO.refl _)
      | (with_reducible exact LeO.none _)
      | (with_reducible refine LeO.ite ?_ ?_)
      | (with_reducible refine LeO.bind ?_ (fun _ => ?_))
      | exact ih0 _ _ _ _ _ _
      | exact ih1 _ _ _ _ _
      | exact partitalaw02_awake.mono _
      | exact LeO.none _
      | refine LeO.ite ?_ ?_
      | refine LeO.bind ?_ (fun _ => ?_)
    · intro y0 y1 y2 y3 y4
      unfold partitalaw02_PitchForms.l0
      repeat' first
      | (with_reducible exact ih0 _ _ _ _ _ _)
      | (with_reducible exact ih1 _ _ _ _ _)
      | (with_reducible exact partitalaw02_awake.mono _)
      | (with_reducible exact LeO.refl _)
      | (with_reducible exact LeO.none _)
      | (with_reducible refine LeO.ite ?_ ?_)
      | (with_reducible refine LeO.bind ?_ (fun _ => ?_))
      | exact ih0 _ _ _ _ _ _
      | exact ih1 _ _ _ _ _
      | exact partitalaw02_awake.mono _
      | exact LeO.none _
      | refine LeO.ite ?_ ?_
      | refine LeO.bind ?_ (fun _ => ?_)
theorem partitalaw02_PitchForms.mono : ∀ a0 a1 a2 a3 a4 a5 k, LeO (partitalaw02_PitchForms.f k a0 a1 a2 a3 a4 a5) (partitalaw02_PitchForms.f (k + 1) a0 a1 a2 a3 a4 a5) := by
  intro a0 a1 a2 a3 a4 a5 k
  obtain ⟨ih0, ih1⟩ := partitalaw02_PitchForms.mono_l k
  unfold partitalaw02_PitchForms.f
  repeat' first
      | (with_reducible exact ih0 _ _ _ _ _ _)
      | (with_reducible exact ih1 _ _ _ _ _)
      | (with_reducible exact partitalaw02_awake.mono _)
      | (with_reducible exact LeO.refl _)
      | (with_reducible exact LeO.none _)
      | (with_reducible refine LeO.ite ?_ ?_)
      | (with_reducible refine LeO.bind ?_ (fun _ => ?_))
      | exact ih0 _ _ _ _ _ _
      | exact ih1 _ _ _ _ _
      | exact partitalaw02_awake.mono _
      | exact LeO.none _
      | refine LeO.ite ?_ ?_
      | refine LeO.bind ?_ (fun _ => ?_)
def partitalaw02_PitchForms.T6 : Bool × List (List Nat × List Nat) := (true, [([], []), ([], []), ([1], [1]), ([2], [2]), ([0, 3], [0, 3]), ([], []), ([], []), ([5, 6], [5, 6]), ([], []), ([8], [8]), ([9], [9]), ([7, 10], [7, 10]), ([], []), ([], []), ([12, 13], [12, 13]), ([11, 14], [11, 14]), ([], []), ([], []), ([17], [17]), ([16, 18], [16, 18]), ([], []), ([], []), ([21], [21]), ([22], [22]), ([20, 23], [20, 23]), ([19, 24], [19, 24]), ([4, 15, 25], [4, 15, 25]), ([26], [26]), ([], [])])
def partitalaw02_PitchForms.B6 : List Nat := [0, 0, 2, 6, 15, 0, 0, 96, 0, 256, 768, 2016, 0, 0, 12288, 32736, 0, 0, 131072, 458752, 0, 0, 2097152, 6291456, 15728640, 33488896, 67108863, 134217727, 0]
theorem partitalaw02_PitchForms.tab6 : rtab .any (opsOf Tryd.f5 6) = partitalaw02_PitchForms.T6 := by kernel_rfl
theorem partitalaw02_PitchForms.bits6 : waitsOk partitalaw02_PitchForms.T6.2 partitalaw02_PitchForms.B6 = true := by kernel_rfl
set_option maxHeartbeats 8000000 in
set_option maxRecDepth 100000 in
theorem partitalaw02_PitchForms.calls (k : Nat) (a0 : ByteArray) (a1_0 : Int) (a1_1 : Int) (a1_2 : Int) (a2 : Int) (a3 : Int) (r : Bool) (w : World) (hr_ : r = true) (hG_ : GW w) (h : partitalaw02_PitchForms.f k a0 a1_0 a1_1 a1_2 a2 a3 = some r) :
    Calls Tryd.prog 5 #[.string a0, .agg #[.int .i64 a1_0, .int .i64 a1_1, .int .i64 a1_2], .int .i64 a2, .int .u8 a3] w fun e w' => e = .returned (.bool r) ∧ Below w.heap.size w w' := by
  have hu23 := Tryd.underlying23
  have HB := Aside0.mk (Below.refl w.heap.size w)
  have HR_ := Aside0.mk hr_
  clear hr_
  have HG_ := Aside0.mk hG_
  clear hG_
  have H : ((partitalaw02_awake.f k).bind fun t325 => ((partitalaw02_Pitch.f a1_0 a1_1 a1_2).bind fun bt326 => ((pitch_Text.f bt326.1 bt326.2.1 bt326.2.2).bind fun bt329 => (if bt329.2 = 0 then (partitalaw02_PitchForms.j0 k a0 a2 a3 t325 bt329.1 (bt329.1.toList == ([] : List UInt8))) else (partitalaw02_PitchForms.j0 k a0 a2 a3 t325 bt329.1 true))))) = some r := h
  clear h
  replace H := Option.bind_eq_some_iff.mp H
  obtain ⟨t325, A50, H⟩ := H
  replace H : ((partitalaw02_Pitch.f a1_0 a1_1 a1_2).bind fun bt326 => ((pitch_Text.f bt326.1 bt326.2.1 bt326.2.2).bind fun bt329 => (if bt329.2 = 0 then (partitalaw02_PitchForms.j0 k a0 a2 a3 t325 bt329.1 (bt329.1.toList == ([] : List UInt8))) else (partitalaw02_PitchForms.j0 k a0 a2 a3 t325 bt329.1 true)))) = some r := H
  have A5 := Aside0.mk A50
  clear A50
  replace H := Option.bind_eq_some_iff.mp H
  obtain ⟨⟨t326, t327, t328⟩, A60, H⟩ := H
  replace H : ((pitch_Text.f t326 t327 t328).bind fun bt329 => (if bt329.2 = 0 then (partitalaw02_PitchForms.j0 k a0 a2 a3 t325 bt329.1 (bt329.1.toList == ([] : List UInt8))) else (partitalaw02_PitchForms.j0 k a0 a2 a3 t325 bt329.1 true))) = some r := H
  have A6 := Aside0.mk A60
  clear A60
  replace H := Option.bind_eq_some_iff.mp H
  obtain ⟨⟨t329, t330⟩, A70, H⟩ := H
  replace H : (if t330 = 0 then (partitalaw02_PitchForms.j0 k a0 a2 a3 t325 t329 (t329.toList == ([] : List UInt8))) else (partitalaw02_PitchForms.j0 k a0 a2 a3 t325 t329 true)) = some r := H
  have A7 := Aside0.mk A70
  clear A70
  have HC8 := Aside0.mk H
  clear H
  go_enter Tryd.func5, Tryd.ntmps5
  go_upto_region 3 with (first | ((with_reducible refine gate_dst (N := 5) rfl ?_); refine box_event ?hg (N := 5) ?hd (cs := #[.int .i64 a1_0, .int .i64 a1_1, .int .i64 a1_2]) (t := 23) ?hr ?_; (case hd => rfl); (case hg => rfl); (case hr => first | (go_simp; done) | (go_simp; rfl)); intro gb324 hg w9 hbox hb; have n0_ := Aside0.mk (below_step (by repeat (first | (with_reducible first | exact HB.out | apply below_alloc | apply pw_below_drewN | apply below_drew1) | exact HB.out)) hb); have n1_ := Aside0.mk (hbox); have n2_ := Aside0.mk ((by rw [hg]; exact (below_size (by repeat (first | (with_reducible first | exact HB.out | apply below_alloc | apply pw_below_drewN | apply below_drew1) | exact HB.out))) : w.heap.size ≤ gb324)); have n3_ := n2_; clear HB; have HB := n0_; have BK324 := n1_; have GW324 := n2_; have GE324 := n3_; clear n0_ n1_ n2_ n3_; clear hb hbox hg) | ((with_reducible refine gate_callee (f := 12) rfl ?_); refine goesL_ (some 19) rfl rfl Tryd.func12 (by kernel_rfl) rfl #[] rfl (by (try simp only [List.map_toArray, List.map_cons, List.map_nil]); first | done | rfl) ?_; (with_reducible refine (partitalaw02_awake.calls k  t325 _ ?side1 A5.out).mono ?_); (case side1 => exact GW.step HG_.out (by repeat (first | (with_reducible first | exact HB.out | apply below_alloc | apply pw_below_drewN | apply below_drew1 | refine below_set ?_ GE324.out) | exact HB.out))); rintro e w10 ⟨rfl, hb⟩; refine ⟨_, rfl, ?_⟩; have n0_ := Aside0.mk (blk_below (g := gb324) (o := .cells #[.int .i64 a1_0, .int .i64 a1_1, .int .i64 a1_2] 23 (0, 0)) (by (with_reducible repeat (first | refine blk_drewN ?_ _ | refine blk_drew ?_ | refine blk_alloc ?_ _)); exact BK324.out) hb); have n1_ := Aside0.mk (below_step (by repeat (first | (with_reducible first | exact HB.out | apply below_alloc | apply pw_below_drewN | apply below_drew1 | refine below_set ?_ GE324.out) | exact HB.out)) hb); clear BK324; clear HB; have BK324 := n0_; have HB := n1_; clear n0_ n1_; (try clear hb); (try clear hb2); (try clear hk); (try clear hi); have hcz11_0 : w10.cell? ⟨gb324, 0, none⟩ = some (.int .i64 a1_0) := (blk_cell BK324.out 0).trans rfl; have hcz11_1 : w10.cell? ⟨gb324, 1, none⟩ = some (.int .i64 a1_1) := (blk_cell BK324.out 1).trans rfl; have hcz11_2 : w10.cell? ⟨gb324, 2, none⟩ = some (.int .i64 a1_2) := (blk_cell BK324.out 2).trans rfl; have hfz11_0 := blk_frozen BK324.out 0; have hfz11_1 := blk_frozen BK324.out 1; have hfz11_2 := blk_frozen BK324.out 2) | ((with_reducible refine gate_callee (f := 13) rfl ?_); refine goesL_ (some 22) rfl rfl Tryd.func13 (by kernel_rfl) rfl #[.agg #[.int .i64 a1_0, .int .i64 a1_1, .int .i64 a1_2]] rfl (by (try simp only [List.map_toArray, List.map_cons, List.map_nil]); first | done | rfl) ?_; (with_reducible refine (partitalaw02_Pitch.calls a1_0 a1_1 a1_2 t326 t327 t328 _ A6.out).mono ?_); rintro e w12 ⟨rfl, hb⟩; refine ⟨_, rfl, ?_⟩; have n0_ := Aside0.mk (blk_below (g := gb324) (o := .cells #[.int .i64 a1_0, .int .i64 a1_1, .int .i64 a1_2] 23 (0, 0)) (by (with_reducible repeat (first | refine blk_drewN ?_ _ | refine blk_drew ?_ | refine blk_alloc ?_ _)); exact BK324.out) hb); have n1_ := Aside0.mk (below_step (by repeat (first | (with_reducible first | exact HB.out | apply below_alloc | apply pw_below_drewN | apply below_drew1 | refine below_set ?_ GE324.out) | exact HB.out)) hb); clear BK324; clear HB; have BK324 := n0_; have HB := n1_; clear n0_ n1_; (try clear hb); (try clear hb2); (try clear hk); (try clear hi)) | ((with_reducible refine gate_callee (f := 18) rfl ?_); refine goesL_ (some 23) rfl rfl Tryd.func18 (by kernel_rfl) rfl #[.agg #[.int .i64 t326, .int .i64 t327, .int .i64 t328]] rfl (by (try simp only [List.map_toArray, List.map_cons, List.map_nil]); first | done | rfl) ?_; (with_reducible refine (pitch_Text.calls t326 t327 t328 t329 t330 _ ?side1 A7.out).mono ?_); (case side1 => exact GW.step HG_.out (by repeat (first | (with_reducible first | exact HB.out | apply below_alloc | apply pw_below_drewN | apply below_drew1 | refine below_set ?_ GE324.out) | exact HB.out))); rintro e w13 ⟨rfl, hb⟩; refine ⟨_, rfl, ?_⟩; have n0_ := Aside0.mk (blk_below (g := gb324) (o := .cells #[.int .i64 a1_0, .int .i64 a1_1, .int .i64 a1_2] 23 (0, 0)) (by (with_reducible repeat (first | refine blk_drewN ?_ _ | refine blk_drew ?_ | refine blk_alloc ?_ _)); exact BK324.out) hb); have n1_ := Aside0.mk (below_step (by repeat (first | (with_reducible first | exact HB.out | apply below_alloc | apply pw_below_drewN | apply below_drew1 | refine below_set ?_ GE324.out) | exact HB.out)) hb); clear BK324; clear HB; have BK324 := n0_; have HB := n1_; clear n0_ n1_; (try clear hb); (try clear hb2); (try clear hk); (try clear hi)))
  (try simp only [Act.put, List.setIfInBounds_toArray, List.set_cons_zero, List.set_cons_succ])
  go_cut [31] (fun v31 wc => ∃ (kq : Nat) (x31_7 : Bool), v31 = .bool x31_7 ∧ Aside0 (partitalaw02_PitchForms.j0 kq a0 a2 a3 t325 t329 x31_7 = some r) ∧ Aside0 (kq ≤ k) ∧ Aside0 (wc.heap[gb324]? = some (.cells #[.int .i64 a1_0, .int .i64 a1_1, .int .i64 a1_2] 23 (0, 0))) ∧ Aside0 (Below w.heap.size w wc))
  case first =>
    have H := HC8.out
    clear HC8
    by_cases c14 : t330 = 0
    · rw [if_pos c14] at H
      have c14b0 : (t330 == 0) = true := beq_iff_eq.mpr c14
      have c14b1 : (t330 != 0) = false := bne_eq_false_iff_eq.mpr c14
      clear c14
      (first | rw [c14b0] | (simp only [i64_w, i32_w]; rw [c14b0]) | skip)
      have H' := Aside0.mk H
      clear H
      go_wp2
      go_meet
      case rel => exact ⟨_, ((t329.toList == ([] : List UInt8))), (by first | rfl | (simp; done) | (simp [*]; done)), H', ⟨by first | omega | exact Nat.le_refl _⟩, ⟨by (with_reducible repeat (first | refine blk_drewN ?_ _ | refine blk_drew ?_ | refine blk_alloc ?_ _)); exact BK324.out⟩, ⟨by repeat (first | (with_reducible first | exact HB.out | apply below_alloc | apply pw_below_drewN | apply below_drew1 | refine below_set ?_ GE324.out) | exact HB.out)⟩⟩
    · rw [if_neg c14] at H
      have c14b0 : (t330 == 0) = false := beq_eq_false_iff_ne.mpr c14
      have c14b1 : (t330 != 0) = true := bne_iff_ne.mpr c14
      (first | rw [c14b0] | (simp only [i64_w, i32_w]; rw [c14b0]) | skip)
      have H' := Aside0.mk H
      clear H
      go_wp2
      go_meet
      case rel => exact ⟨_, (true), (by first | rfl | (simp; done) | (simp [*]; done)), H', ⟨by first | omega | exact Nat.le_refl _⟩, ⟨by (with_reducible repeat (first | refine blk_drewN ?_ _ | refine blk_drew ?_ | refine blk_alloc ?_ _)); exact BK324.out⟩, ⟨by repeat (first | (with_reducible first | exact HB.out | apply below_alloc | apply pw_below_drewN | apply below_drew1 | refine below_set ?_ GE324.out) | exact HB.out)⟩⟩
  case rest =>
    clear HC8
    try clear c1
    try clear p2
    try clear c5
    try clear c12
    try clear c13
    try clear c14
    try clear c14b0
    try clear c14b1
    try clear hcz11_0
    try clear hcz11_1
    try clear hcz11_2
    try clear hfz11_0
    try clear hfz11_1
    try clear hfz11_2
    obtain ⟨kq, x31_7, rfl, HA, HJ7, BK324, HB⟩ := hcut
    cases kq with
    | zero => exact absurd HA.out (by simp [partitalaw02_PitchForms.j0])
    | succ kj7 =>
      have H := HA.out
      clear HA
      simp only [partitalaw02_PitchForms.j0] at H
      by_cases c15 : x31_7 = true
      · subst c15
        have H1 : (some false) = some r := by rw [if_pos rfl] at H; exact H
        clear H
        have H := H1
        clear H1
        exact absurd H (by rw [HR_.out]; simp)
      · replace c15 := Bool.eq_false_iff.mpr c15
        subst c15
        have H1 : ((partitalaw02_pick.f a2 (wrap64 ((t329.size : Int) + 1))).bind fun t331 => (if 0 ≤ (mn (a0.size : Int) 20) then (if (mn (a0.size : Int) 20) ≤ (a0.size : Int) then (if 0 ≤ t331 then (if t331 ≤ (t329.size : Int) then ((some (([a3] : List Int) : List Int)).bind fun y332 => (if (t329.extract 0 (t331 : Int).toNat).size + (strOfNums y332).size ≤ 9223372036854775807 then (if ((t329.extract 0 (t331 : Int).toNat) ++ (strOfNums y332)).size + (t329.extract (t331 : Int).toNat t329.size).size ≤ 9223372036854775807 then (if 0 ≤ (wrap64 (Int.tdiv t331 2)) then (if (wrap64 (Int.tdiv t331 2)) ≤ (t329.size : Int) then (if 0 ≤ (wrap64 ((wrap64 (Int.tdiv t331 2)) + 1)) then (if (wrap64 ((wrap64 (Int.tdiv t331 2)) + 1)) ≤ (t329.size : Int) then (if (t329.extract 0 ((wrap64 (Int.tdiv t331 2)) : Int).toNat).size + (t329.extract ((wrap64 ((wrap64 (Int.tdiv t331 2)) + 1)) : Int).toNat t329.size).size ≤ 9223372036854775807 then ((some (([a0.extract 0 ((mn (a0.size : Int) 20) : Int).toNat, ((t329.extract 0 (t331 : Int).toNat) ++ (strOfNums y332)) ++ (t329.extract (t331 : Int).toNat t329.size), (t329.extract 0 ((wrap64 (Int.tdiv t331 2)) : Int).toNat) ++ (t329.extract ((wrap64 ((wrap64 (Int.tdiv t331 2)) + 1)) : Int).toNat t329.size)] : List ByteArray) : List ByteArray)).bind fun y335 => (partitalaw02_PitchForms.l0 kj7 t325 t329 y335 (y335.length : Int) 0)) else (none)) else (none)) else (none)) else (none)) else (none)) else (none)) else (none))) else (none)) else (none)) else (none)) else (none))) = some r := by rw [if_neg (show ¬ (false = true) by decide)] at H; exact H
        clear H
        have H := H1
        clear H1
        replace H := Option.bind_eq_some_iff.mp H
        obtain ⟨t331, A160, H⟩ := H
        replace H : (if 0 ≤ (mn (a0.size : Int) 20) then (if (mn (a0.size : Int) 20) ≤ (a0.size : Int) then (if 0 ≤ t331 then (if t331 ≤ (t329.size : Int) then ((some (([a3] : List Int) : List Int)).bind fun y332 => (if (t329.extract 0 (t331 : Int).toNat).size + (strOfNums y332).size ≤ 9223372036854775807 then (if ((t329.extract 0 (t331 : Int).toNat) ++ (strOfNums y332)).size + (t329.extract (t331 : Int).toNat t329.size).size ≤ 9223372036854775807 then (if 0 ≤ (wrap64 (Int.tdiv t331 2)) then (if (wrap64 (Int.tdiv t331 2)) ≤ (t329.size : Int) then (if 0 ≤ (wrap64 ((wrap64 (Int.tdiv t331 2)) + 1)) then (if (wrap64 ((wrap64 (Int.tdiv t331 2)) + 1)) ≤ (t329.size : Int) then (if (t329.extract 0 ((wrap64 (Int.tdiv t331 2)) : Int).toNat).size + (t329.extract ((wrap64 ((wrap64 (Int.tdiv t331 2)) + 1)) : Int).toNat t329.size).size ≤ 9223372036854775807 then ((some (([a0.extract 0 ((mn (a0.size : Int) 20) : Int).toNat, ((t329.extract 0 (t331 : Int).toNat) ++ (strOfNums y332)) ++ (t329.extract (t331 : Int).toNat t329.size), (t329.extract 0 ((wrap64 (Int.tdiv t331 2)) : Int).toNat) ++ (t329.extract ((wrap64 ((wrap64 (Int.tdiv t331 2)) + 1)) : Int).toNat t329.size)] : List ByteArray) : List ByteArray)).bind fun y335 => (partitalaw02_PitchForms.l0 kj7 t325 t329 y335 (y335.length : Int) 0)) else (none)) else (none)) else (none)) else (none)) else (none)) else (none)) else (none))) else (none)) else (none)) else (none)) else (none)) = some r := H
        have A16 := Aside0.mk A160
        clear A160
        obtain ⟨ji17, hji17⟩ : ∃ j_ : Int, (mn (a0.size : Int) 20) = j_ := ⟨_, rfl⟩
        replace H : (if 0 ≤ (ji17) then (if (ji17) ≤ (a0.size : Int) then (if 0 ≤ t331 then (if t331 ≤ (t329.size : Int) then ((some (([a3] : List Int) : List Int)).bind fun y332 => (if (t329.extract 0 (t331 : Int).toNat).size + (strOfNums y332).size ≤ 9223372036854775807 then (if ((t329.extract 0 (t331 : Int).toNat) ++ (strOfNums y332)).size + (t329.extract (t331 : Int).toNat t329.size).size ≤ 9223372036854775807 then (if 0 ≤ (wrap64 (Int.tdiv t331 2)) then (if (wrap64 (Int.tdiv t331 2)) ≤ (t329.size : Int) then (if 0 ≤ (wrap64 ((wrap64 (Int.tdiv t331 2)) + 1)) then (if (wrap64 ((wrap64 (Int.tdiv t331 2)) + 1)) ≤ (t329.size : Int) then (if (t329.extract 0 ((wrap64 (Int.tdiv t331 2)) : Int).toNat).size + (t329.extract ((wrap64 ((wrap64 (Int.tdiv t331 2)) + 1)) : Int).toNat t329.size).size ≤ 9223372036854775807 then ((some (([a0.extract 0 ((ji17) : Int).toNat, ((t329.extract 0 (t331 : Int).toNat) ++ (strOfNums y332)) ++ (t329.extract (t331 : Int).toNat t329.size), (t329.extract 0 ((wrap64 (Int.tdiv t331 2)) : Int).toNat) ++ (t329.extract ((wrap64 ((wrap64 (Int.tdiv t331 2)) + 1)) : Int).toNat t329.size)] : List ByteArray) : List ByteArray)).bind fun y335 => (partitalaw02_PitchForms.l0 kj7 t325 t329 y335 (y335.length : Int) 0)) else (none)) else (none)) else (none)) else (none)) else (none)) else (none)) else (none))) else (none)) else (none)) else (none)) else (none)) = some r := by first | (rw [hji17] at H; exact H) | (simp only [hji17] at H ⊢; exact H)
        (try rw [hji17] at A16)
        have hji17_ : (if 20 < (a0.size : Int) then 20 else (a0.size : Int)) = ji17 := hji17
        by_cases c18 : 0 ≤ (ji17)
        · rw [if_pos c18] at H
          have c18b0 := eq_true c18
          have c18b1 : decide (0 ≤ (ji17)) = true := decide_eq_true c18
          clear c18
          by_cases c19 : (ji17) ≤ (a0.size : Int)
          · rw [if_pos c19] at H
            have c19b0 := eq_true c19
            have c19b1 : decide ((ji17) ≤ (a0.size : Int)) = true := decide_eq_true c19
            clear c19
            by_cases c20 : 0 ≤ t331
            · rw [if_pos c20] at H
              have c20b0 := eq_true c20
              have c20b1 : decide (0 ≤ t331) = true := decide_eq_true c20
              clear c20
              by_cases c21 : t331 ≤ (t329.size : Int)
              · rw [if_pos c21] at H
                have c21b0 := eq_true c21
                have c21b1 : decide (t331 ≤ (t329.size : Int)) = true := decide_eq_true c21
                clear c21
                obtain ⟨y332, hy332⟩ : ∃ y_ : List Int, y_ = (([a3] : List Int)) := ⟨_, rfl⟩
                replace H : (if (t329.extract 0 (t331 : Int).toNat).size + (strOfNums y332).size ≤ 9223372036854775807 then (if ((t329.extract 0 (t331 : Int).toNat) ++ (strOfNums y332)).size + (t329.extract (t331 : Int).toNat t329.size).size ≤ 9223372036854775807 then (if 0 ≤ (wrap64 (Int.tdiv t331 2)) then (if (wrap64 (Int.tdiv t331 2)) ≤ (t329.size : Int) then (if 0 ≤ (wrap64 ((wrap64 (Int.tdiv t331 2)) + 1)) then (if (wrap64 ((wrap64 (Int.tdiv t331 2)) + 1)) ≤ (t329.size : Int) then (if (t329.extract 0 ((wrap64 (Int.tdiv t331 2)) : Int).toNat).size + (t329.extract ((wrap64 ((wrap64 (Int.tdiv t331 2)) + 1)) : Int).toNat t329.size).size ≤ 9223372036854775807 then ((some (([a0.extract 0 ((ji17) : Int).toNat, ((t329.extract 0 (t331 : Int).toNat) ++ (strOfNums y332)) ++ (t329.extract (t331 : Int).toNat t329.size), (t329.extract 0 ((wrap64 (Int.tdiv t331 2)) : Int).toNat) ++ (t329.extract ((wrap64 ((wrap64 (Int.tdiv t331 2)) + 1)) : Int).toNat t329.size)] : List ByteArray) : List ByteArray)).bind fun y335 => (partitalaw02_PitchForms.l0 kj7 t325 t329 y335 (y335.length : Int) 0)) else (none)) else (none)) else (none)) else (none)) else (none)) else (none)) else (none)) = some r := by first | (rw [hy332]; with_reducible exact H) | (have H2_ := (Option.bind_some _ _).symm.trans H; rw [hy332]; with_reducible exact H2_) | (have H2_ := (Option.bind_some _ _).symm.trans H; with_reducible exact H2_) | with_reducible exact H | (rw [hy332]; exact H) | exact H
                have Ny332 := Aside0.mk hy332
                clear hy332
                by_cases c22 : (t329.extract 0 (t331 : Int).toNat).size + (strOfNums y332).size ≤ 9223372036854775807
                · rw [if_pos c22] at H
                  have c22b0 := eq_true c22
                  have c22b1 : decide ((t329.extract 0 (t331 : Int).toNat).size + (strOfNums y332).size ≤ 9223372036854775807) = true := decide_eq_true c22
                  try have c22b2 : (9223372036854775807 < (t329.extract 0 (t331 : Int).toNat).size + (strOfNums y332).size) = False := eq_false (Nat.not_lt.2 c22)
                  try have c22b2s : (9223372036854775807 < (t331 : Int).toNat + (strOfNums y332).size) = False := eq_false (by have h_ := c22; simp only [ByteArray.size_append, ByteArray.size_extract] at h_; (try have zc18b0 := of_eq_true c18b0); (try have zc19b0 := of_eq_true c19b0); (try have zc20b0 := of_eq_true c20b0); (try have zc21b0 := of_eq_true c21b0); (try have zc22b0 := of_eq_true c22b0); omega)
                  have c23b0 := eq_true (of_decide_eq_true (by first | (with_reducible assumption) | assumption) : 0 ≤ t331)
                  have c24b0 := eq_true (of_decide_eq_true (by first | (with_reducible assumption) | assumption) : t331 ≤ (t329.size : Int))
                  by_cases c25 : ((t329.extract 0 (t331 : Int).toNat) ++ (strOfNums y332)).size + (t329.extract (t331 : Int).toNat t329.size).size ≤ 9223372036854775807
                  · rw [if_pos c25] at H
                    have c25b0 := eq_true c25
                    have c25b1 : decide (((t329.extract 0 (t331 : Int).toNat) ++ (strOfNums y332)).size + (t329.extract (t331 : Int).toNat t329.size).size ≤ 9223372036854775807) = true := decide_eq_true c25
                    try have c25b2 : (9223372036854775807 < ((t329.extract 0 (t331 : Int).toNat) ++ (strOfNums y332)).size + (t329.extract (t331 : Int).toNat t329.size).size) = False := eq_false (Nat.not_lt.2 c25)
                    try have c25b2s : (9223372036854775807 < (t331 : Int).toNat + (strOfNums y332).size + (t329.size - (t331 : Int).toNat)) = False := eq_false (by have h_ := c25; simp only [ByteArray.size_append, ByteArray.size_extract] at h_; (try have zc18b0 := of_eq_true c18b0); (try have zc19b0 := of_eq_true c19b0); (try have zc20b0 := of_eq_true c20b0); (try have zc21b0 := of_eq_true c21b0); (try have zc22b0 := of_eq_true c22b0); (try have zc25b0 := of_eq_true c25b0); omega)
                    obtain ⟨ji26, hji26⟩ : ∃ j_ : Int, (wrap64 (Int.tdiv t331 2)) = j_ := ⟨_, rfl⟩
                    replace H : (if 0 ≤ (ji26) then (if (ji26) ≤ (t329.size : Int) then (if 0 ≤ (wrap64 ((ji26) + 1)) then (if (wrap64 ((ji26) + 1)) ≤ (t329.size : Int) then (if (t329.extract 0 ((ji26) : Int).toNat).size + (t329.extract ((wrap64 ((ji26) + 1)) : Int).toNat t329.size).size ≤ 9223372036854775807 then ((some (([a0.extract 0 ((ji17) : Int).toNat, ((t329.extract 0 (t331 : Int).toNat) ++ (strOfNums y332)) ++ (t329.extract (t331 : Int).toNat t329.size), (t329.extract 0 ((ji26) : Int).toNat) ++ (t329.extract ((wrap64 ((ji26) + 1)) : Int).toNat t329.size)] : List ByteArray) : List ByteArray)).bind fun y335 => (partitalaw02_PitchForms.l0 kj7 t325 t329 y335 (y335.length : Int) 0)) else (none)) else (none)) else (none)) else (none)) else (none)) = some r := by first | (rw [hji26] at H; exact H) | (simp only [hji26] at H ⊢; exact H)
                    (try rw [hji26] at A16)
                    have hji26w : (IntKind.i64.wrap (Int.tdiv t331 2)) = ji26 := (i64_w _).trans hji26
                    by_cases c27 : 0 ≤ (ji26)
                    · rw [if_pos c27] at H
                      have c27b0 := eq_true c27
                      have c27b1 : decide (0 ≤ (ji26)) = true := decide_eq_true c27
                      clear c27
                      by_cases c28 : (ji26) ≤ (t329.size : Int)
                      · rw [if_pos c28] at H
                        have c28b0 := eq_true c28
                        have c28b1 : decide ((ji26) ≤ (t329.size : Int)) = true := decide_eq_true c28
                        clear c28
                        obtain ⟨ji29, hji29⟩ : ∃ j_ : Int, (wrap64 ((ji26) + 1)) = j_ := ⟨_, rfl⟩
                        replace H : (if 0 ≤ (ji29) then (if (ji29) ≤ (t329.size : Int) then (if (t329.extract 0 ((ji26) : Int).toNat).size + (t329.extract ((ji29) : Int).toNat t329.size).size ≤ 9223372036854775807 then ((some (([a0.extract 0 ((ji17) : Int).toNat, ((t329.extract 0 (t331 : Int).toNat) ++ (strOfNums y332)) ++ (t329.extract (t331 : Int).toNat t329.size), (t329.extract 0 ((ji26) : Int).toNat) ++ (t329.extract ((ji29) : Int).toNat t329.size)] : List ByteArray) : List ByteArray)).bind fun y335 => (partitalaw02_PitchForms.l0 kj7 t325 t329 y335 (y335.length : Int) 0)) else (none)) else (none)) else (none)) = some r := by first | (rw [hji29] at H; exact H) | (simp only [hji29] at H ⊢; exact H)
                        (try rw [hji29] at A16)
                        have hji29w : (IntKind.i64.wrap ((ji26) + 1)) = ji29 := (i64_w _).trans hji29
                        by_cases c30 : 0 ≤ (ji29)
                        · rw [if_pos c30] at H
                          have c30b0 := eq_true c30
                          have c30b1 : decide (0 ≤ (ji29)) = true := decide_eq_true c30
                          clear c30
                          by_cases c31 : (ji29) ≤ (t329.size : Int)
                          · rw [if_pos c31] at H
                            have c31b0 := eq_true c31
                            have c31b1 : decide ((ji29) ≤ (t329.size : Int)) = true := decide_eq_true c31
                            clear c31
                            by_cases c32 : (t329.extract 0 ((ji26) : Int).toNat).size + (t329.extract ((ji29) : Int).toNat t329.size).size ≤ 9223372036854775807
                            · rw [if_pos c32] at H
                              have c32b0 := eq_true c32
                              have c32b1 : decide ((t329.extract 0 ((ji26) : Int).toNat).size + (t329.extract ((ji29) : Int).toNat t329.size).size ≤ 9223372036854775807) = true := decide_eq_true c32
                              try have c32b2 : (9223372036854775807 < (t329.extract 0 ((ji26) : Int).toNat).size + (t329.extract ((ji29) : Int).toNat t329.size).size) = False := eq_false (Nat.not_lt.2 c32)
                              try have c32b2s : (9223372036854775807 < ((ji26) : Int).toNat + (t329.size - ((ji29) : Int).toNat)) = False := eq_false (by have h_ := c32; simp only [ByteArray.size_append, ByteArray.size_extract] at h_; (try have zc18b0 := of_eq_true c18b0); (try have zc19b0 := of_eq_true c19b0); (try have zc20b0 := of_eq_true c20b0); (try have zc21b0 := of_eq_true c21b0); (try have zc22b0 := of_eq_true c22b0); (try have zc25b0 := of_eq_true c25b0); (try have zc27b0 := of_eq_true c27b0); (try have zc28b0 := of_eq_true c28b0); (try have zc30b0 := of_eq_true c30b0); (try have zc31b0 := of_eq_true c31b0); (try have zc32b0 := of_eq_true c32b0); omega)
                              obtain ⟨y335, hy335⟩ : ∃ y_ : List ByteArray, y_ = (([a0.extract 0 ((ji17) : Int).toNat, ((t329.extract 0 (t331 : Int).toNat) ++ (strOfNums y332)) ++ (t329.extract (t331 : Int).toNat t329.size), (t329.extract 0 ((ji26) : Int).toNat) ++ (t329.extract ((ji29) : Int).toNat t329.size)] : List ByteArray)) := ⟨_, rfl⟩
                              replace H : (partitalaw02_PitchForms.l0 kj7 t325 t329 y335 (y335.length : Int) 0) = some r := by first | (rw [hy335]; with_reducible exact H) | (have H2_ := (Option.bind_some _ _).symm.trans H; rw [hy335]; with_reducible exact H2_) | (have H2_ := (Option.bind_some _ _).symm.trans H; with_reducible exact H2_) | with_reducible exact H | (rw [hy335]; exact H) | exact H
                              have Ny335 := Aside0.mk hy335
                              clear hy335
                              have H' := Aside0.mk H
                              clear H
                              try go_wp2_with (first | ((with_reducible refine gate_callee (f := 22) rfl ?_); refine goesL_ (some 36) rfl rfl Tryd.func22 (by kernel_rfl) rfl #[.int .i64 a2, .int .i64 (wrap64 ((t329.size : Int) + 1))] rfl (by (try simp only [List.map_toArray, List.map_cons, List.map_nil]); first | done | rfl) ?_; (with_reducible refine (partitalaw02_pick.calls a2 (wrap64 ((t329.size : Int) + 1)) t331 _ A16.out).mono ?_); rintro e w' ⟨rfl, ⟨nd, rfl⟩⟩; refine ⟨_, rfl, ?_⟩))
                              (try (rw [drewN_self wc]; generalize hq_ : World.drewN wc _ = wc; have n0_ : Aside0 (wc.heap[gb324]? = some (.cells #[.int .i64 a1_0, .int .i64 a1_1, .int .i64 a1_2] 23 (0, 0))) := ⟨by rw [← hq_]; exact (by (with_reducible repeat (first | refine blk_drewN ?_ _ | refine blk_drew ?_ | refine blk_alloc ?_ _)); exact BK324.out)⟩; have n1_ : Aside0 (Below w.heap.size w wc) := ⟨by rw [← hq_]; exact (by repeat (first | (with_reducible first | exact HB.out | apply below_alloc | apply pw_below_drewN | apply below_drew1 | refine below_set ?_ GE324.out) | exact HB.out))⟩; clear BK324 HB hq_; have BK324 := n0_; have HB := n1_; clear n0_ n1_))
                              have n0_ := Aside0.mk (blk_drew BK324.out)
                              have n1_ := Aside0.mk (below_drew1 HB.out)
                              clear BK324
                              clear HB
                              have BK324 := n0_
                              have HB := n1_
                              clear n0_ n1_
                              refine start_ (n := 29) (S := fun w' => True) (ds := []) #[false, false, false, false, false, false, false, false, false, false, false, false, false, false, false, false, false, false, false, false, false, false, false, false, false, false, false, false, false] (by kernel_rfl) rfl rfl trivial (fun hHeld => ?_); refine with_tabW partitalaw02_PitchForms.tab6 partitalaw02_PitchForms.bits6 (fun HT_ HW_ => ?_)
                              generalize wc.drew = w33 at BK324 HB hHeld ⊢
                              refine pure_ (i := 0) (N := some 37) (v := ?_) (a' := ?_) #[true, false, false, false, false, false, false, false, false, false, false, false, false, false, false, false, false, false, false, false, false, false, false, false, false, false, false, false, false] rfl rfl (any_of HT_.out (by kernel_rfl)) (fun _ _ _ h => h) (Or.inl ⟨by rfl, ?_⟩) ?_ ?_
                              rotate_left
                              · intro w'
                                go_simp
                                with_reducible rfl
                              rotate_left
                              · simp only [Act.put, List.setIfInBounds_toArray, List.set_cons_zero, List.set_cons_succ, i64_w, i32_w]
                                rfl
                              refine pure_ (i := 1) (N := some 38) (v := ?_) (a' := ?_) #[true, true, false, false, false, false, false, false, false, false, false, false, false, false, false, false, false, false, false, false, false, false, false, false, false, false, false, false, false] rfl rfl (any_of HT_.out (by kernel_rfl)) (fun _ _ _ h => h) (Or.inl ⟨by rfl, ?_⟩) ?_ ?_
                              rotate_left
                              · intro w'
                                go_simp
                                with_reducible rfl
                              rotate_left
                              · simp only [Act.put, List.setIfInBounds_toArray, List.set_cons_zero, List.set_cons_succ, i64_w, i32_w]
                                rfl
                              refine pure_ (i := 2) (N := some 39) (v := ?_) (a' := ?_) #[true, true, true, false, false, false, false, false, false, false, false, false, false, false, false, false, false, false, false, false, false, false, false, false, false, false, false, false, false] rfl rfl (any_of HT_.out (by kernel_rfl)) (fun _ _ _ h => h) (Or.inl ⟨by rfl, ?_⟩) ?_ ?_
                              rotate_left
                              · intro w'
                                go_simp
                                with_reducible rfl
                              rotate_left
                              · simp only [Act.put, List.setIfInBounds_toArray, List.set_cons_zero, List.set_cons_succ, i64_w, i32_w]
                                rfl
                              refine pure_ (i := 3) (N := some 40) (v := ?_) (a' := ?_) #[true, true, true, true, false, false, false, false, false, false, false, false, false, false, false, false, false, false, false, false, false, false, false, false, false, false, false, false, false] rfl rfl (any_of HT_.out (by kernel_rfl)) (fun _ _ _ h => h) (Or.inl ⟨by rfl, ?_⟩) ?_ ?_
                              rotate_left
                              · intro w'
                                go_simp
                                with_reducible rfl
                              rotate_left
                              · simp only [Act.put, List.setIfInBounds_toArray, List.set_cons_zero, List.set_cons_succ, i64_w, i32_w]
                                rfl
                              refine pure_ (i := 4) (N := some 41) (v := ?_) (a' := ?_) #[true, true, true, true, true, false, false, false, false, false, false, false, false, false, false, false, false, false, false, false, false, false, false, false, false, false, false, false, false] rfl rfl (any_of HT_.out (by kernel_rfl)) (fun _ _ _ h => h) (Or.inl ⟨by rfl, ?_⟩) ?_ ?_
                              rotate_left
                              · intro w'
                                go_simp
                                with_reducible rfl
                              rotate_left
                              · simp only [Act.put, List.setIfInBounds_toArray, List.set_cons_zero, List.set_cons_succ, i64_w, i32_w]
                                rfl
                              refine pure_ (i := 5) (N := some 42) (v := ?_) (a' := ?_) #[true, true, true, true, true, true, false, false, false, false, false, false, false, false, false, false, false, false, false, false, false, false, false, false, false, false, false, false, false] rfl rfl (any_of HT_.out (by kernel_rfl)) (fun _ _ _ h => h) (Or.inl ⟨by rfl, ?_⟩) ?_ ?_
                              rotate_left
                              · intro w'
                                go_simp
                                with_reducible rfl
                              rotate_left
                              · simp only [Act.put, List.setIfInBounds_toArray, List.set_cons_zero, List.set_cons_succ, i64_w, i32_w]
                                rfl
                              refine pure_ (i := 6) (N := some 43) (v := ?_) (a' := ?_) #[true, true, true, true, true, true, true, false, false, false, false, false, false, false, false, false, false, false, false, false, false, false, false, false, false, false, false, false, false] rfl rfl (any_of HT_.out (by kernel_rfl)) (fun _ _ _ h => h) (Or.inl ⟨by rfl, ?_⟩) ?_ ?_
                              rotate_left
                              · intro w'
                                go_simp
                                with_reducible rfl
                              rotate_left
                              · simp only [Act.put, List.setIfInBounds_toArray, List.set_cons_zero, List.set_cons_succ, i64_w, i32_w]
                                rfl
                              refine pure_ (i := 7) (N := some 44) (v := ?_) (a' := ?_) #[true, true, true, true, true, true, true, true, false, false, false, false, false, false, false, false, false, false, false, false, false, false, false, false, false, false, false, false, false] rfl rfl (any_of HT_.out (by kernel_rfl)) (fun _ _ _ h => h) (Or.inl ⟨by rfl, ?_⟩) ?_ ?_
                              rotate_left
                              · intro w'
                                go_simp
                                with_reducible rfl
                              rotate_left
                              · simp only [Act.put, List.setIfInBounds_toArray, List.set_cons_zero, List.set_cons_succ, i64_w, i32_w]
                                rfl
                              refine pure_ (i := 8) (N := some 45) (v := ?_) (a' := ?_) #[true, true, true, true, true, true, true, true, true, false, false, false, false, false, false, false, false, false, false, false, false, false, false, false, false, false, false, false, false] rfl rfl (any_of HT_.out (by kernel_rfl)) (fun _ _ _ h => h) (Or.inl ⟨by rfl, ?_⟩) ?_ ?_
                              rotate_left
                              · intro w'
                                go_simp
                                with_reducible rfl
                              rotate_left
                              · simp only [Act.put, List.setIfInBounds_toArray, List.set_cons_zero, List.set_cons_succ, i64_w, i32_w]
                                rfl
                              refine pure_ (i := 12) (N := some 49) (v := ?_) (a' := ?_) #[true, true, true, true, true, true, true, true, true, false, false, false, true, false, false, false, false, false, false, false, false, false, false, false, false, false, false, false, false] rfl rfl (any_of HT_.out (by kernel_rfl)) (fun _ _ _ h => h) (Or.inl ⟨by rfl, ?_⟩) ?_ ?_
                              rotate_left
                              · intro w'
                                go_simp
                                with_reducible rfl
                              rotate_left
                              · simp only [Act.put, List.setIfInBounds_toArray, List.set_cons_zero, List.set_cons_succ, i64_w, i32_w]
                                rfl
                              refine pure_ (i := 13) (N := some 50) (v := ?_) (a' := ?_) #[true, true, true, true, true, true, true, true, true, false, false, false, true, true, false, false, false, false, false, false, false, false, false, false, false, false, false, false, false] rfl rfl (any_of HT_.out (by kernel_rfl)) (fun _ _ _ h => h) (Or.inl ⟨by rfl, ?_⟩) ?_ ?_
                              rotate_left
                              · intro w'
                                go_simp
                                with_reducible rfl
                              rotate_left
                              · simp only [Act.put, List.setIfInBounds_toArray, List.set_cons_zero, List.set_cons_succ, i64_w, i32_w]
                                rfl
                              refine pure_ (i := 14) (N := some 51) (v := ?_) (a' := ?_) #[true, true, true, true, true, true, true, true, true, false, false, false, true, true, true, false, false, false, false, false, false, false, false, false, false, false, false, false, false] rfl rfl (any_of HT_.out (by kernel_rfl)) (fun _ _ _ h => h) (Or.inl ⟨by rfl, ?_⟩) ?_ ?_
                              rotate_left
                              · intro w'
                                go_simp
                                with_reducible rfl
                              rotate_left
                              · simp only [Act.put, List.setIfInBounds_toArray, List.set_cons_zero, List.set_cons_succ, i64_w, i32_w]
                                rfl
                              refine pure_ (i := 16) (N := some 53) (v := ?_) (a' := ?_) #[true, true, true, true, true, true, true, true, true, false, false, false, true, true, true, false, true, false, false, false, false, false, false, false, false, false, false, false, false] rfl rfl (any_of HT_.out (by kernel_rfl)) (fun _ _ _ h => h) (Or.inl ⟨by rfl, ?_⟩) ?_ ?_
                              rotate_left
                              · intro w'
                                go_simp
                                with_reducible rfl
                              rotate_left
                              · simp only [Act.put, List.setIfInBounds_toArray, List.set_cons_zero, List.set_cons_succ, i64_w, i32_w]
                                rfl
                              refine pure_ (i := 17) (N := some 54) (v := ?_) (a' := ?_) #[true, true, true, true, true, true, true, true, true, false, false, false, true, true, true, false, true, true, false, false, false, false, false, false, false, false, false, false, false] rfl rfl (any_of HT_.out (by kernel_rfl)) (fun _ _ _ h => h) (Or.inl ⟨by rfl, ?_⟩) ?_ ?_
                              rotate_left
                              · intro w'
                                go_simp
                                with_reducible rfl
                              rotate_left
                              · simp only [Act.put, List.setIfInBounds_toArray, List.set_cons_zero, List.set_cons_succ, i64_w, i32_w]
                                rfl
                              refine pure_ (i := 18) (N := some 55) (v := ?_) (a' := ?_) #[true, true, true, true, true, true, true, true, true, false, false, false, true, true, true, false, true, true, true, false, false, false, false, false, false, false, false, false, false] rfl rfl (any_of HT_.out (by kernel_rfl)) (fun _ _ _ h => h) (Or.inl ⟨by rfl, ?_⟩) ?_ ?_
                              rotate_left
                              · intro w'
                                go_simp
                                with_reducible rfl
                              rotate_left
                              · simp only [Act.put, List.setIfInBounds_toArray, List.set_cons_zero, List.set_cons_succ, i64_w, i32_w]
                                rfl
                              refine pure_ (i := 19) (N := some 56) (v := ?_) (a' := ?_) #[true, true, true, true, true, true, true, true, true, false, false, false, true, true, true, false, true, true, true, true, false, false, false, false, false, false, false, false, false] rfl rfl (any_of HT_.out (by kernel_rfl)) (fun _ _ _ h => h) (Or.inl ⟨by rfl, ?_⟩) ?_ ?_
                              rotate_left
                              · intro w'
                                go_simp
                                with_reducible rfl
                              rotate_left
                              · simp only [Act.put, List.setIfInBounds_toArray, List.set_cons_zero, List.set_cons_succ, i64_w, i32_w]
                                rfl
                              refine pure_ (i := 20) (N := some 57) (v := ?_) (a' := ?_) #[true, true, true, true, true, true, true, true, true, false, false, false, true, true, true, false, true, true, true, true, true, false, false, false, false, false, false, false, false] rfl rfl (any_of HT_.out (by kernel_rfl)) (fun _ _ _ h => h) (Or.inl ⟨by rfl, ?_⟩) ?_ ?_
                              rotate_left
                              · intro w'
                                go_simp
                                with_reducible rfl
                              rotate_left
                              · simp only [Act.put, List.setIfInBounds_toArray, List.set_cons_zero, List.set_cons_succ, i64_w, i32_w]
                                rfl
                              refine pure_ (i := 21) (N := some 58) (v := ?_) (a' := ?_) #[true, true, true, true, true, true, true, true, true, false, false, false, true, true, true, false, true, true, true, true, true, true, false, false, false, false, false, false, false] rfl rfl (any_of HT_.out (by kernel_rfl)) (fun _ _ _ h => h) (Or.inl ⟨by rfl, ?_⟩) ?_ ?_
                              rotate_left
                              · intro w'
                                go_simp
                                with_reducible rfl
                              rotate_left
                              · simp only [Act.put, List.setIfInBounds_toArray, List.set_cons_zero, List.set_cons_succ, i64_w, i32_w]
                                rfl
                              refine pure_ (i := 22) (N := some 59) (v := ?_) (a' := ?_) #[true, true, true, true, true, true, true, true, true, false, false, false, true, true, true, false, true, true, true, true, true, true, true, false, false, false, false, false, false] rfl rfl (any_of HT_.out (by kernel_rfl)) (fun _ _ _ h => h) (Or.inl ⟨by rfl, ?_⟩) ?_ ?_
                              rotate_left
                              · intro w'
                                go_simp
                                with_reducible rfl
                              rotate_left
                              · simp only [Act.put, List.setIfInBounds_toArray, List.set_cons_zero, List.set_cons_succ, i64_w, i32_w]
                                rfl
                              refine pure_ (i := 23) (N := some 60) (v := ?_) (a' := ?_) #[true, true, true, true, true, true, true, true, true, false, false, false, true, true, true, false, true, true, true, true, true, true, true, true, false, false, false, false, false] rfl rfl (any_of HT_.out (by kernel_rfl)) (fun _ _ _ h => h) (Or.inl ⟨by rfl, ?_⟩) ?_ ?_
                              rotate_left
                              · intro w'
                                go_simp
                                with_reducible rfl
                              rotate_left
                              · simp only [Act.put, List.setIfInBounds_toArray, List.set_cons_zero, List.set_cons_succ, i64_w, i32_w]
                                rfl
                              refine pure_ (i := 24) (N := some 61) (v := ?_) (a' := ?_) #[true, true, true, true, true, true, true, true, true, false, false, false, true, true, true, false, true, true, true, true, true, true, true, true, true, false, false, false, false] rfl rfl (any_of HT_.out (by kernel_rfl)) (fun _ _ _ h => h) (Or.inl ⟨by rfl, ?_⟩) ?_ ?_
                              rotate_left
                              · intro w'
                                go_simp
                                with_reducible rfl
                              rotate_left
                              · simp only [Act.put, List.setIfInBounds_toArray, List.set_cons_zero, List.set_cons_succ, i64_w, i32_w]
                                rfl
                              refine pure_ (i := 25) (N := some 62) (v := ?_) (a' := ?_) #[true, true, true, true, true, true, true, true, true, false, false, false, true, true, true, false, true, true, true, true, true, true, true, true, true, true, false, false, false] rfl rfl (any_of HT_.out (by kernel_rfl)) (fun _ _ _ h => h) (Or.inl ⟨by rfl, ?_⟩) ?_ ?_
                              rotate_left
                              · intro w'
                                go_simp
                                with_reducible rfl
                              rotate_left
                              · simp only [Act.put, List.setIfInBounds_toArray, List.set_cons_zero, List.set_cons_succ, i64_w, i32_w]
                                rfl
                              refine pure_ (i := 28) (N := some 65) (v := ?_) (a' := ?_) #[true, true, true, true, true, true, true, true, true, false, false, false, true, true, true, false, true, true, true, true, true, true, true, true, true, true, false, false, true] rfl rfl (any_of HT_.out (by kernel_rfl)) (fun _ _ _ h => h) (Or.inl ⟨by rfl, ?_⟩) ?_ ?_
                              rotate_left
                              · intro w'
                                go_simp
                                with_reducible rfl
                              rotate_left
                              · simp only [Act.put, List.setIfInBounds_toArray, List.set_cons_zero, List.set_cons_succ, i64_w, i32_w]
                                rfl
                              refine one_ (i := 9) (N := some 46) #[true, true, true, true, true, true, true, true, true, true, false, false, true, true, true, false, true, true, true, true, true, true, true, true, true, true, false, false, true] rfl rfl (one_of HT_.out (by kernel_rfl)) (by decide) (fun K hK => ?_)
                              refine Kd.R_lit_step (Kd.int .u8) _ 5 ?hg (N := 46) ?hd (xs := ([a3] : List Int)) (inner := [.int .u8 a3]) (ok := fun _ => True) (okp := fun _ => True) ?hr ?hp (fun _ hk => hk) trivial (Below.refl _ _) (Nat.le_refl _) (by simp) ?_; (case hd => rfl); (case hg => rfl); (case hr => first | (go_simp; done) | (go_simp; rfl)); (case hp => exact (Reps.one (show Kd.M (Kd.int .u8) _ _ _ a3 [.int .u8 a3] from rfl) (Reps.none _ _)))
                              intro v333 w34 ho35 hb hg_ hnew_
                              clear hg_ hnew_
                              (first | rw [← Ny332.out] at ho35 | (simp only [Int.reduceToNat] at ho35; rw [← Ny332.out] at ho35))
                              have n0_ := Aside0.mk (Kd.R_lower ho35 (below_size (by repeat (first | (with_reducible first | exact HB.out | apply below_alloc | apply pw_below_drewN | apply below_drew1 | refine below_set ?_ GE324.out) | exact HB.out))))
                              have n1_ := Aside0.mk (blk_below (g := gb324) (o := .cells #[.int .i64 a1_0, .int .i64 a1_1, .int .i64 a1_2] 23 (0, 0)) (by (with_reducible repeat (first | refine blk_drewN ?_ _ | refine blk_drew ?_ | refine blk_alloc ?_ _)); exact BK324.out) hb)
                              have n2_ := Aside0.mk (below_step (by repeat (first | (with_reducible first | exact HB.out | apply below_alloc | apply pw_below_drewN | apply below_drew1 | refine below_set ?_ GE324.out) | exact HB.out)) hb)
                              clear BK324
                              clear HB
                              have HO334 := n0_
                              have BK324 := n1_
                              have HB := n2_
                              clear n0_ n1_ n2_
                              clear hb ho35
                              refine hK.out _ _ trivial (fun hHeld => ?_)
                              clear hK K
                              refine norm_ (a' := ?_) ?_ ?_
                              rotate_left
                              · show Act.put _ (some 46) _ = _
                                simp only [Act.put, List.setIfInBounds_toArray, List.set_cons_zero, List.set_cons_succ, i64_w, i32_w]
                                rfl
                              refine one_ (i := 10) (N := some 47) #[true, true, true, true, true, true, true, true, true, true, true, false, true, true, true, false, true, true, true, true, true, true, true, true, true, true, false, false, true] rfl rfl (one_of HT_.out (by kernel_rfl)) (by decide) (fun K hK => ?_)
                              have hcv36 := own_string (P := Tryd.prog) Tryd.underlying45 Tryd.underlying5 Tryd.underlying9 (Kd.own_of_R HO334.out)
                              refine value_ (w1 := ?_) (v := ?_) (by rfl) rfl ?_ ?_
                              rotate_left 2
                              · go_simp
                                constructor
                                · rfl
                                · rfl
                              clear hcv36
                              refine hK.out _ _ trivial (fun hHeld => ?_)
                              clear hK K
                              refine norm_ (a' := ?_) ?_ ?_
                              rotate_left
                              · show Act.put _ (some 47) _ = _
                                simp only [Act.put, List.setIfInBounds_toArray, List.set_cons_zero, List.set_cons_succ, i64_w, i32_w]
                                rfl
                              refine pure_ (i := 11) (N := some 48) (v := ?_) (a' := ?_) #[true, true, true, true, true, true, true, true, true, true, true, true, true, true, true, false, true, true, true, true, true, true, true, true, true, true, false, false, true] rfl rfl (any_of HT_.out (by kernel_rfl)) (fun _ _ _ h => h) (Or.inl ⟨by rfl, ?_⟩) ?_ ?_
                              rotate_left
                              · intro w'
                                go_simp
                                with_reducible rfl
                              rotate_left
                              · simp only [Act.put, List.setIfInBounds_toArray, List.set_cons_zero, List.set_cons_succ, i64_w, i32_w]
                                rfl
                              refine pure_ (i := 15) (N := some 52) (v := ?_) (a' := ?_) #[true, true, true, true, true, true, true, true, true, true, true, true, true, true, true, true, true, true, true, true, true, true, true, true, true, true, false, false, true] rfl rfl (any_of HT_.out (by kernel_rfl)) (fun _ _ _ h => h) (Or.inl ⟨by rfl, ?_⟩) ?_ ?_
                              rotate_left
                              · intro w'
                                go_simp
                                with_reducible rfl
                              rotate_left
                              · simp only [Act.put, List.setIfInBounds_toArray, List.set_cons_zero, List.set_cons_succ, i64_w, i32_w]
                                rfl
                              refine one_ (i := 26) (N := some 63) #[true, true, true, true, true, true, true, true, true, true, true, true, true, true, true, true, true, true, true, true, true, true, true, true, true, true, true, false, true] rfl rfl (one_of HT_.out (by kernel_rfl)) (by decide) (fun K hK => ?_)
                              refine Kd.R_lit_step Kd.string _ 9 ?hg (N := 63) ?hd (xs := ([a0.extract 0 ((ji17) : Int).toNat, ((t329.extract 0 (t331 : Int).toNat) ++ (strOfNums y332)) ++ (t329.extract (t331 : Int).toNat t329.size), (t329.extract 0 ((ji26) : Int).toNat) ++ (t329.extract ((ji29) : Int).toNat t329.size)] : List ByteArray)) (inner := [.string (a0.extract 0 ((ji17) : Int).toNat), .string (((t329.extract 0 (t331 : Int).toNat) ++ (strOfNums y332)) ++ (t329.extract (t331 : Int).toNat t329.size)), .string ((t329.extract 0 ((ji26) : Int).toNat) ++ (t329.extract ((ji29) : Int).toNat t329.size))]) (ok := fun _ => True) (okp := fun _ => True) ?hr ?hp (fun _ hk => hk) trivial (Below.refl _ _) (Nat.le_refl _) (by simp) ?_; (case hd => rfl); (case hg => rfl); (case hr => first | (go_simp; done) | (go_simp; rfl)); (case hp => exact (Reps.one (show Kd.M Kd.string _ _ _ (a0.extract 0 ((ji17) : Int).toNat) [.string (a0.extract 0 ((ji17) : Int).toNat)] from rfl) (Reps.one (show Kd.M Kd.string _ _ _ (((t329.extract 0 (t331 : Int).toNat) ++ (strOfNums y332)) ++ (t329.extract (t331 : Int).toNat t329.size)) [.string (((t329.extract 0 (t331 : Int).toNat) ++ (strOfNums y332)) ++ (t329.extract (t331 : Int).toNat t329.size))] from rfl) (Reps.one (show Kd.M Kd.string _ _ _ ((t329.extract 0 ((ji26) : Int).toNat) ++ (t329.extract ((ji29) : Int).toNat t329.size)) [.string ((t329.extract 0 ((ji26) : Int).toNat) ++ (t329.extract ((ji29) : Int).toNat t329.size))] from rfl) (Reps.none _ _)))))
                              intro v336 w37 ho38 hb hg_ hnew_
                              clear hg_ hnew_
                              (first | rw [← Ny335.out] at ho38 | (simp only [Int.reduceToNat] at ho38; rw [← Ny335.out] at ho38))
                              have n0_ := Aside0.mk (Kd.R_below (by (with_reducible repeat (first | apply Kd.R_alloc | apply Kd.R_drewN | apply Kd.R_drew)); exact HO334.out) hb)
                              have n1_ := Aside0.mk (Kd.R_lower ho38 (below_size (by repeat (first | (with_reducible first | exact HB.out | apply below_alloc | apply pw_below_drewN | apply below_drew1 | refine below_set ?_ GE324.out) | exact HB.out))))
                              have n2_ := Aside0.mk (blk_below (g := gb324) (o := .cells #[.int .i64 a1_0, .int .i64 a1_1, .int .i64 a1_2] 23 (0, 0)) (by (with_reducible repeat (first | refine blk_drewN ?_ _ | refine blk_drew ?_ | refine blk_alloc ?_ _)); exact BK324.out) hb)
                              have n3_ := Aside0.mk (below_step (by repeat (first | (with_reducible first | exact HB.out | apply below_alloc | apply pw_below_drewN | apply below_drew1 | refine below_set ?_ GE324.out) | exact HB.out)) hb)
                              clear HO334
                              clear BK324
                              clear HB
                              have HO334 := n0_
                              have HO337 := n1_
                              have BK324 := n2_
                              have HB := n3_
                              clear n0_ n1_ n2_ n3_
                              clear hb ho38
                              obtain ⟨Ao39, co39, eo39⟩ := Kd.R_slice HO337.out
                              (first | subst eo39 | (injection eo39 with f1_ f2_ f3_; have f4_ := f1_.symm; have f5_ := f3_.symm; clear f1_ f2_ f3_; subst f4_; subst f5_))
                              refine hK.out _ _ trivial (fun hHeld => ?_)
                              clear hK K
                              refine norm_ (a' := ?_) ?_ ?_
                              rotate_left
                              · show Act.put _ (some 63) _ = _
                                simp only [Act.put, List.setIfInBounds_toArray, List.set_cons_zero, List.set_cons_succ, i64_w, i32_w]
                                rfl
                              refine pure_ (i := 27) (N := some 64) (v := ?_) (a' := ?_) #[true, true, true, true, true, true, true, true, true, true, true, true, true, true, true, true, true, true, true, true, true, true, true, true, true, true, true, true, true] rfl rfl (any_of HT_.out (by kernel_rfl)) (fun _ _ _ h => h) (Or.inl ⟨by rfl, ?_⟩) ?_ ?_
                              rotate_left
                              · intro w'
                                go_simp
                                with_reducible rfl
                              rotate_left
                              · simp only [Act.put, List.setIfInBounds_toArray, List.set_cons_zero, List.set_cons_succ, i64_w, i32_w]
                                rfl
                              refine done_ (done_of HT_.out (by kernel_rfl)) ?_
                              try go_wp2
                              go_loopg [65] kj7 (fun kq v65 w' => ∃ (x65_2 : Int), v65 = .int .i64 x65_2 ∧ Aside0 (partitalaw02_PitchForms.l0 kq t325 t329 y335 (y335.length : Int) x65_2 = some r) ∧ Aside0 (kq ≤ kj7) ∧ Aside0 (Kd.R Kd.string 9 w' w.heap.size (fun _ => True) (.slice Ao39 y335.length co39) y335) ∧ Aside0 (w'.heap[gb324]? = some (.cells #[.int .i64 a1_0, .int .i64 a1_1, .int .i64 a1_2] 23 (0, 0))) ∧ Aside0 (Below w.heap.size w w'))
                              case atStart => exact ⟨(0), (by first | rfl | (simp; done) | (simp [*]; done)), H', ⟨Nat.le_refl _⟩, ⟨by (with_reducible repeat (first | apply Kd.R_alloc | apply Kd.R_drewN | apply Kd.R_drew)); exact HO337.out⟩, ⟨by (with_reducible repeat (first | refine blk_drewN ?_ _ | refine blk_drew ?_ | refine blk_alloc ?_ _)); exact BK324.out⟩, ⟨by repeat (first | (with_reducible first | exact HB.out | apply below_alloc | apply pw_below_drewN | apply below_drew1 | refine below_set ?_ GE324.out) | exact HB.out)⟩⟩
                              case round =>
                                clear H'
                                try clear c1
                                try clear c2
                                try clear p2
                                try clear c3
                                try clear hcv3
                                try clear c5
                                try clear p6
                                try clear c12
                                try clear c13
                                try clear c14
                                try clear c14b0
                                try clear c14b1
                                try clear c15
                                try clear c18
                                try clear c18b0
                                try clear c18b1
                                try clear c19
                                try clear c19b0
                                try clear c19b1
                                try clear c20
                                try clear c20b0
                                try clear c20b1
                                try clear c21
                                try clear c21b0
                                try clear c21b1
                                try clear c22
                                try clear c22b0
                                try clear c22b1
                                try clear c22b2
                                try clear c23
                                try clear c23b0
                                try clear c24
                                try clear c24b0
                                try clear c25
                                try clear c25b0
                                try clear c25b1
                                try clear c25b2
                                try clear c27
                                try clear c27b0
                                try clear c27b1
                                try clear c28
                                try clear c28b0
                                try clear c28b1
                                try clear c30
                                try clear c30b0
                                try clear c30b1
                                try clear c31
                                try clear c31b0
                                try clear c31b1
                                try clear c32
                                try clear c32b0
                                try clear c32b1
                                try clear c32b2
                                try clear hcv36
                                try clear hcz11_0
                                try clear hcz11_1
                                try clear hcz11_2
                                try clear hfz11_0
                                try clear hfz11_1
                                try clear hfz11_2
                                try clear p2
                                obtain ⟨x65_2, rfl, HA, HK2, HO_63, BK324, HB⟩ := hrel
                                cases gk with
                                | zero => exact absurd HA.out (by simp [partitalaw02_PitchForms.l0])
                                | succ k2 =>
                                  have H := HA.out
                                  clear HA
                                  simp only [partitalaw02_PitchForms.l0] at H
                                  by_cases c40 : x65_2 < (y335.length : Int)
                                  · rw [if_pos c40] at H
                                    have c40b0 : decide (x65_2 < (y335.length : Int)) = true := decide_eq_true c40
                                    clear c40
                                    by_cases c41 : 0 ≤ x65_2
                                    · rw [if_pos c41] at H
                                      have c41b0 : decide (0 ≤ x65_2) = true := decide_eq_true c41
                                      clear c41
                                      by_cases c42 : x65_2 < (y335.length : Int)
                                      · rw [if_pos c42] at H
                                        have c42b0 : decide (x65_2 < (y335.length : Int)) = true := decide_eq_true c42
                                        clear c42
                                        replace H := Option.bind_eq_some_iff.mp H
                                        obtain ⟨⟨t339, t340, t341, t342⟩, A430, H⟩ := H
                                        replace H : (if t342 = 0 then ((pitch_Text.f t339 t340 t341).bind fun bt344 => (if bt344.2 = 0 then (if bt344.1.toList = (rdOf ByteArray.empty y335 x65_2).toList then ((pitch_Right.f t339 t340 t341).bind fun t346 => (if t346 = true then (if (rdOf ByteArray.empty y335 x65_2).toList = t329.toList then (if t325 = true then (some (bt344.1.toList == (rdOf ByteArray.empty y335 x65_2).toList)) else (some false)) else (partitalaw02_PitchForms.l0 k2 t325 t329 y335 (y335.length : Int) (wrap64 (x65_2 + 1)))) else (if t325 = true then (if (rdOf ByteArray.empty y335 x65_2).toList = t329.toList then (some (bt344.1.toList == (rdOf ByteArray.empty y335 x65_2).toList)) else (some false)) else (some false)))) else (if t325 = true then (if (rdOf ByteArray.empty y335 x65_2).toList = t329.toList then (some (bt344.1.toList == (rdOf ByteArray.empty y335 x65_2).toList)) else (some false)) else (some false))) else (if t325 = true then (if (rdOf ByteArray.empty y335 x65_2).toList = t329.toList then (some false) else (some false)) else (some false)))) else (if t342 = 21 then (if (!(t339 == 0) || (!(t340 == 0) || (!(t341 == 0)))) = true then (some false) else (partitalaw02_PitchForms.l0 k2 t325 t329 y335 (y335.length : Int) (wrap64 (x65_2 + 1)))) else (some false))) = some r := H
                                        have A43 := Aside0.mk A430
                                        clear A430
                                        by_cases c44 : t342 = 0
                                        · rw [if_pos c44] at H
                                          have c44b0 : (t342 == 0) = true := beq_iff_eq.mpr c44
                                          have c44b1 : (t342 != 0) = false := bne_eq_false_iff_eq.mpr c44
                                          clear c44
                                          replace H := Option.bind_eq_some_iff.mp H
                                          obtain ⟨⟨t344, t345⟩, A450, H⟩ := H
                                          replace H : (if t345 = 0 then (if t344.toList = (rdOf ByteArray.empty y335 x65_2).toList then ((pitch_Right.f t339 t340 t341).bind fun t346 => (if t346 = true then (if (rdOf ByteArray.empty y335 x65_2).toList = t329.toList then (if t325 = true then (some (t344.toList == (rdOf ByteArray.empty y335 x65_2).toList)) else (some false)) else (partitalaw02_PitchForms.l0 k2 t325 t329 y335 (y335.length : Int) (wrap64 (x65_2 + 1)))) else (if t325 = true then (if (rdOf ByteArray.empty y335 x65_2).toList = t329.toList then (some (t344.toList == (rdOf ByteArray.empty y335 x65_2).toList)) else (some false)) else (some false)))) else (if t325 = true then (if (rdOf ByteArray.empty y335 x65_2).toList = t329.toList then (some (t344.toList == (rdOf ByteArray.empty y335 x65_2).toList)) else (some false)) else (some false))) else (if t325 = true then (if (rdOf ByteArray.empty y335 x65_2).toList = t329.toList then (some false) else (some false)) else (some false))) = some r := H
                                          have A45 := Aside0.mk A450
                                          clear A450
                                          by_cases c46 : t345 = 0
                                          · rw [if_pos c46] at H
                                            have c46b0 : (t345 == 0) = true := beq_iff_eq.mpr c46
                                            have c46b1 : (t345 != 0) = false := bne_eq_false_iff_eq.mpr c46
                                            clear c46
                                            by_cases c47 : t344.toList = (rdOf ByteArray.empty y335 x65_2).toList
                                            · rw [if_pos c47] at H
                                              have c47b0 : (t344.toList == (rdOf ByteArray.empty y335 x65_2).toList) = true := beq_iff_eq.mpr c47
                                              have c47b1 : (t344.toList != (rdOf ByteArray.empty y335 x65_2).toList) = false := bne_eq_false_iff_eq.mpr c47
                                              clear c47
                                              replace H := Option.bind_eq_some_iff.mp H
                                              obtain ⟨t346, A480, H⟩ := H
                                              replace H : (if t346 = true then (if (rdOf ByteArray.empty y335 x65_2).toList = t329.toList then (if t325 = true then (some (t344.toList == (rdOf ByteArray.empty y335 x65_2).toList)) else (some false)) else (partitalaw02_PitchForms.l0 k2 t325 t329 y335 (y335.length : Int) (wrap64 (x65_2 + 1)))) else (if t325 = true then (if (rdOf ByteArray.empty y335 x65_2).toList = t329.toList then (some (t344.toList == (rdOf ByteArray.empty y335 x65_2).toList)) else (some false)) else (some false))) = some r := H
                                              have A48 := Aside0.mk A480
                                              clear A480
                                              by_cases c49 : t346 = true
                                              · subst c49
                                                have H1 : (if (rdOf ByteArray.empty y335 x65_2).toList = t329.toList then (if t325 = true then (some (t344.toList == (rdOf ByteArray.empty y335 x65_2).toList)) else (some false)) else (partitalaw02_PitchForms.l0 k2 t325 t329 y335 (y335.length : Int) (wrap64 (x65_2 + 1)))) = some r := by rw [if_pos rfl] at H; exact H
                                                clear H
                                                have H := H1
                                                clear H1
                                                by_cases c50 : (rdOf ByteArray.empty y335 x65_2).toList = t329.toList
                                                · rw [if_pos c50] at H
                                                  have c50b0 : ((rdOf ByteArray.empty y335 x65_2).toList == t329.toList) = true := beq_iff_eq.mpr c50
                                                  have c50b1 : ((rdOf ByteArray.empty y335 x65_2).toList != t329.toList) = false := bne_eq_false_iff_eq.mpr c50
                                                  clear c50
                                                  by_cases c51 : t325 = true
                                                  · subst c51
                                                    have H1 : (some (t344.toList == (rdOf ByteArray.empty y335 x65_2).toList)) = some r := by rw [if_pos rfl] at H; exact H
                                                    clear H
                                                    have H := H1
                                                    clear H1
                                                    obtain rfl := Option.some.inj H
                                                    have p338 : 0 ≤ (x65_2 : Int) := of_decide_eq_true (by first | (with_reducible assumption) | assumption)
                                                    have q338 : x65_2 < (y335.length : Int) := of_decide_eq_true (by first | (with_reducible assumption) | assumption)
                                                    obtain ⟨ad338, e338, hx338_0⟩ := Kd.at_string (Kd.R_reads' HO_63.out).2.2 x65_2 p338 q338
                                                    cases e338
                                                    replace p338 := eq_true p338
                                                    replace q338 := eq_true q338
                                                    go_wp2_with (first | ((with_reducible refine gate_callee (f := 29) rfl ?_); refine goesL_ (some 71) rfl rfl Tryd.func29 (by kernel_rfl) rfl #[.string (rdOf ByteArray.empty y335 x65_2)] rfl (by (try simp only [List.map_toArray, List.map_cons, List.map_nil]); first | done | rfl) ?_; (with_reducible refine (pitch_Read.calls (rdOf ByteArray.empty y335 x65_2) t339 t340 t341 t342 _ ?side1 A43.out).mono ?_); (case side1 => exact GW.step HG_.out (by repeat (first | (with_reducible first | exact HB.out | apply below_alloc | apply pw_below_drewN | apply below_drew1 | refine below_set ?_ GE324.out) | exact HB.out))); rintro e w52 ⟨rfl, hb⟩; refine ⟨_, rfl, ?_⟩; have n0_ := Aside0.mk (Kd.R_below (by (with_reducible repeat (first | apply Kd.R_alloc | apply Kd.R_drewN | apply Kd.R_drew)); exact HO_63.out) hb); have n1_ := Aside0.mk (blk_below (g := gb324) (o := .cells #[.int .i64 a1_0, .int .i64 a1_1, .int .i64 a1_2] 23 (0, 0)) (by (with_reducible repeat (first | refine blk_drewN ?_ _ | refine blk_drew ?_ | refine blk_alloc ?_ _)); exact BK324.out) hb); have n2_ := Aside0.mk (below_step (by repeat (first | (with_reducible first | exact HB.out | apply below_alloc | apply pw_below_drewN | apply below_drew1 | refine below_set ?_ GE324.out) | exact HB.out)) hb); clear HO_63; clear BK324; clear HB; have HO_63 := n0_; have BK324 := n1_; have HB := n2_; clear n0_ n1_ n2_; (try clear hb); (try clear hb2); (try clear hk); (try clear hi)) | ((with_reducible refine gate_dst (N := 15) rfl ?_); refine box_event ?hg (N := 15) ?hd (cs := #[.int .i64 0, .int .i64 0, .int .i64 0]) (t := 23) ?hr ?_; (case hd => rfl); (case hg => rfl); (case hr => first | (go_simp; done) | (go_simp; rfl)); intro gb343 hg w53 hbox hb; have n0_ := Aside0.mk (Kd.R_below (by (with_reducible repeat (first | apply Kd.R_alloc | apply Kd.R_drewN | apply Kd.R_drew)); exact HO_63.out) hb); have n1_ := Aside0.mk (blk_below (g := gb324) (o := .cells #[.int .i64 a1_0, .int .i64 a1_1, .int .i64 a1_2] 23 (0, 0)) (by (with_reducible repeat (first | refine blk_drewN ?_ _ | refine blk_drew ?_ | refine blk_alloc ?_ _)); exact BK324.out) hb); have n2_ := Aside0.mk (below_step (by repeat (first | (with_reducible first | exact HB.out | apply below_alloc | apply pw_below_drewN | apply below_drew1 | refine below_set ?_ GE324.out) | exact HB.out)) hb); have n3_ := Aside0.mk (hbox); have n4_ := Aside0.mk ((by rw [hg]; exact (below_size (by repeat (first | (with_reducible first | exact HB.out | apply below_alloc | apply pw_below_drewN | apply below_drew1 | refine below_set ?_ GE324.out) | exact HB.out))) : w.heap.size ≤ gb343)); have n5_ := n4_; have n6_ := Aside0.mk ((by rw [hg]; exact Nat.ne_of_lt (blk_lt (g := gb324) (o := .cells #[.int .i64 a1_0, .int .i64 a1_1, .int .i64 a1_2] 23 (0, 0)) (by (with_reducible repeat (first | refine blk_drewN ?_ _ | refine blk_drew ?_ | refine blk_alloc ?_ _)); exact BK324.out)) : gb324 ≠ gb343)); have n7_ := Aside0.mk n6_.out.symm; clear HO_63; clear BK324; clear HB; have HO_63 := n0_; have BK324 := n1_; have HB := n2_; have BK343 := n3_; have GW343 := n4_; have GE343 := n5_; have NB324_343 := n6_; have NB343_324 := n7_; clear n0_ n1_ n2_ n3_ n4_ n5_ n6_ n7_; clear hb hbox hg; have hnb54 := NB343_324.out; have hnc54 := NB324_343.out; have hcz55_0 : w53.cell? ⟨gb343, 0, none⟩ = some (.int .i64 0) := (blk_cell BK343.out 0).trans rfl; have hcz55_1 : w53.cell? ⟨gb343, 1, none⟩ = some (.int .i64 0) := (blk_cell BK343.out 1).trans rfl; have hcz55_2 : w53.cell? ⟨gb343, 2, none⟩ = some (.int .i64 0) := (blk_cell BK343.out 2).trans rfl; have hfz55_0 := blk_frozen BK343.out 0; have hfz55_1 := blk_frozen BK343.out 1; have hfz55_2 := blk_frozen BK343.out 2) | ((with_reducible refine gate_callee (f := 18) rfl ?_); refine goesL_ (some 85) rfl rfl Tryd.func18 (by kernel_rfl) rfl #[.agg #[.int .i64 t339, .int .i64 t340, .int .i64 t341]] rfl (by (try simp only [List.map_toArray, List.map_cons, List.map_nil]); first | done | rfl) ?_; (with_reducible refine (pitch_Text.calls t339 t340 t341 t344 t345 _ ?side1 A45.out).mono ?_); (case side1 => exact GW.step HG_.out (by repeat (first | (with_reducible first | exact HB.out | apply below_alloc | apply pw_below_drewN | apply below_drew1 | refine below_set ?_ GE324.out | refine below_set ?_ GE343.out) | exact HB.out))); rintro e w56 ⟨rfl, hb⟩; refine ⟨_, rfl, ?_⟩; have n0_ := Aside0.mk (Kd.R_below (by (with_reducible repeat (first | apply Kd.R_alloc | apply Kd.R_drewN | apply Kd.R_drew)); exact (Kd.R_mono (Kd.R_far (p := ⟨gb343, 2, none⟩) (Kd.R_far (p := ⟨gb343, 1, none⟩) (Kd.R_far (p := ⟨gb343, 0, none⟩) (Kd.R_types HO_63.out BK343.out (by decide)) (fun _ hk => hk.2) (.int .i64 t339)) (fun _ hk => hk.2) (.int .i64 t340)) (fun _ hk => hk.2) (.int .i64 t341)) (fun _ h_ => h_.1))) hb); have n1_ := Aside0.mk (blk_below (g := gb324) (o := .cells #[.int .i64 a1_0, .int .i64 a1_1, .int .i64 a1_2] 23 (0, 0)) (by (with_reducible repeat (first | refine blk_drewN ?_ _ | refine blk_drew ?_ | refine blk_alloc ?_ _)); refine blk_far ?_ NB324_343.out _; (with_reducible repeat (first | refine blk_drewN ?_ _ | refine blk_drew ?_ | refine blk_alloc ?_ _)); refine blk_far ?_ NB324_343.out _; (with_reducible repeat (first | refine blk_drewN ?_ _ | refine blk_drew ?_ | refine blk_alloc ?_ _)); refine blk_far ?_ NB324_343.out _; (with_reducible repeat (first | refine blk_drewN ?_ _ | refine blk_drew ?_ | refine blk_alloc ?_ _)); exact BK324.out) hb); have n2_ := Aside0.mk (blk_below (g := gb343) (o := .cells #[.int .i64 t339, .int .i64 t340, .int .i64 t341] 23 (0, 0)) (by (with_reducible repeat (first | refine blk_drewN ?_ _ | refine blk_drew ?_ | refine blk_alloc ?_ _)); refine blk_put (cs := #[.int .i64 t339, .int .i64 t340, .int .i64 0]) ?_ 2 _ rfl; (with_reducible repeat (first | refine blk_drewN ?_ _ | refine blk_drew ?_ | refine blk_alloc ?_ _)); refine blk_put (cs := #[.int .i64 t339, .int .i64 0, .int .i64 0]) ?_ 1 _ rfl; (with_reducible repeat (first | refine blk_drewN ?_ _ | refine blk_drew ?_ | refine blk_alloc ?_ _)); refine blk_put (cs := #[.int .i64 0, .int .i64 0, .int .i64 0]) ?_ 0 _ rfl; (with_reducible repeat (first | refine blk_drewN ?_ _ | refine blk_drew ?_ | refine blk_alloc ?_ _)); exact BK343.out) hb); have n3_ := Aside0.mk (below_step (by repeat (first | (with_reducible first | exact HB.out | apply below_alloc | apply pw_below_drewN | apply below_drew1 | refine below_set ?_ GE324.out | refine below_set ?_ GE343.out) | exact HB.out)) hb); clear HO_63; clear BK324; clear BK343; clear HB; have HO_63 := n0_; have BK324 := n1_; have BK343 := n2_; have HB := n3_; clear n0_ n1_ n2_ n3_; (try clear hb); (try clear hb2); (try clear hk); (try clear hi); have hcz57_0 : w56.cell? ⟨gb343, 0, none⟩ = some (.int .i64 t339) := (blk_cell BK343.out 0).trans rfl; have hcz57_1 : w56.cell? ⟨gb343, 1, none⟩ = some (.int .i64 t340) := (blk_cell BK343.out 1).trans rfl; have hcz57_2 : w56.cell? ⟨gb343, 2, none⟩ = some (.int .i64 t341) := (blk_cell BK343.out 2).trans rfl; have hfz57_0 := blk_frozen BK343.out 0; have hfz57_1 := blk_frozen BK343.out 1; have hfz57_2 := blk_frozen BK343.out 2) | (go_at_call 20; (with_reducible refine (pitch_Right.calls t339 t340 t341 true _ ?side1 A48.out).mono ?_); (case side1 => exact GW.step HG_.out (by repeat (first | (with_reducible first | exact HB.out | apply below_alloc | apply pw_below_drewN | apply below_drew1 | refine below_set ?_ GE324.out | refine below_set ?_ GE343.out) | exact HB.out))); rintro e w58 ⟨rfl, hb⟩; have n0_ := Aside0.mk (Kd.R_below (by (with_reducible repeat (first | apply Kd.R_alloc | apply Kd.R_drewN | apply Kd.R_drew)); exact HO_63.out) hb); have n1_ := Aside0.mk (blk_below (g := gb324) (o := .cells #[.int .i64 a1_0, .int .i64 a1_1, .int .i64 a1_2] 23 (0, 0)) (by (with_reducible repeat (first | refine blk_drewN ?_ _ | refine blk_drew ?_ | refine blk_alloc ?_ _)); exact BK324.out) hb); have n2_ := Aside0.mk (blk_below (g := gb343) (o := .cells #[.int .i64 t339, .int .i64 t340, .int .i64 t341] 23 (0, 0)) (by (with_reducible repeat (first | refine blk_drewN ?_ _ | refine blk_drew ?_ | refine blk_alloc ?_ _)); exact BK343.out) hb); have n3_ := Aside0.mk (below_step (by repeat (first | (with_reducible first | exact HB.out | apply below_alloc | apply pw_below_drewN | apply below_drew1 | refine below_set ?_ GE324.out | refine below_set ?_ GE343.out) | exact HB.out)) hb); clear HO_63; clear BK324; clear BK343; clear HB; have HO_63 := n0_; have BK324 := n1_; have BK343 := n2_; have HB := n3_; clear n0_ n1_ n2_ n3_; (try clear hb); (try clear hb2); (try clear hk); (try clear hi)))
                                                    go_ret
                                                    exact ⟨by first | rfl | (simp [errW_none, errW_some] <;> rfl) | (simp only [← hji17, ← hji26, ← hji29]; first | rfl | (simp [errW_none, errW_some] <;> rfl)) | (simp [*, errW_none, errW_some] <;> rfl), by repeat (first | (with_reducible first | exact HB.out | apply below_alloc | apply pw_below_drewN | apply below_drew1 | refine below_set ?_ GE324.out | refine below_set ?_ GE343.out) | exact HB.out)⟩
                                                  · replace c51 := Bool.eq_false_iff.mpr c51
                                                    subst c51
                                                    have H1 : (some false) = some r := by rw [if_neg (show ¬ (false = true) by decide)] at H; exact H
                                                    clear H
                                                    have H := H1
                                                    clear H1
                                                    exact absurd H (by rw [HR_.out]; simp)
                                                · rw [if_neg c50] at H
                                                  have c50b0 : ((rdOf ByteArray.empty y335 x65_2).toList == t329.toList) = false := beq_eq_false_iff_ne.mpr c50
                                                  have c50b1 : ((rdOf ByteArray.empty y335 x65_2).toList != t329.toList) = true := bne_iff_ne.mpr c50
                                                  have H' := Aside0.mk H
                                                  clear H
                                                  have p338 : 0 ≤ (x65_2 : Int) := of_decide_eq_true (by first | (with_reducible assumption) | assumption)
                                                  have q338 : x65_2 < (y335.length : Int) := of_decide_eq_true (by first | (with_reducible assumption) | assumption)
                                                  obtain ⟨ad338, e338, hx338_0⟩ := Kd.at_string (Kd.R_reads' HO_63.out).2.2 x65_2 p338 q338
                                                  cases e338
                                                  replace p338 := eq_true p338
                                                  replace q338 := eq_true q338
                                                  go_wp2_with (first | ((with_reducible refine gate_callee (f := 29) rfl ?_); refine goesL_ (some 71) rfl rfl Tryd.func29 (by kernel_rfl) rfl #[.string (rdOf ByteArray.empty y335 x65_2)] rfl (by (try simp only [List.map_toArray, List.map_cons, List.map_nil]); first | done | rfl) ?_; (with_reducible refine (pitch_Read.calls (rdOf ByteArray.empty y335 x65_2) t339 t340 t341 t342 _ ?side1 A43.out).mono ?_); (case side1 => exact GW.step HG_.out (by repeat (first | (with_reducible first | exact HB.out | apply below_alloc | apply pw_below_drewN | apply below_drew1 | refine below_set ?_ GE324.out) | exact HB.out))); rintro e w59 ⟨rfl, hb⟩; refine ⟨_, rfl, ?_⟩; have n0_ := Aside0.mk (Kd.R_below (by (with_reducible repeat (first | apply Kd.R_alloc | apply Kd.R_drewN | apply Kd.R_drew)); exact HO_63.out) hb); have n1_ := Aside0.mk (blk_below (g := gb324) (o := .cells #[.int .i64 a1_0, .int .i64 a1_1, .int .i64 a1_2] 23 (0, 0)) (by (with_reducible repeat (first | refine blk_drewN ?_ _ | refine blk_drew ?_ | refine blk_alloc ?_ _)); exact BK324.out) hb); have n2_ := Aside0.mk (below_step (by repeat (first | (with_reducible first | exact HB.out | apply below_alloc | apply pw_below_drewN | apply below_drew1 | refine below_set ?_ GE324.out) | exact HB.out)) hb); clear HO_63; clear BK324; clear HB; have HO_63 := n0_; have BK324 := n1_; have HB := n2_; clear n0_ n1_ n2_; (try clear hb); (try clear hb2); (try clear hk); (try clear hi)) | ((with_reducible refine gate_dst (N := 15) rfl ?_); refine box_event ?hg (N := 15) ?hd (cs := #[.int .i64 0, .int .i64 0, .int .i64 0]) (t := 23) ?hr ?_; (case hd => rfl); (case hg => rfl); (case hr => first | (go_simp; done) | (go_simp; rfl)); intro gb343 hg w60 hbox hb; have n0_ := Aside0.mk (Kd.R_below (by (with_reducible repeat (first | apply Kd.R_alloc | apply Kd.R_drewN | apply Kd.R_drew)); exact HO_63.out) hb); have n1_ := Aside0.mk (blk_below (g := gb324) (o := .cells #[.int .i64 a1_0, .int .i64 a1_1, .int .i64 a1_2] 23 (0, 0)) (by (with_reducible repeat (first | refine blk_drewN ?_ _ | refine blk_drew ?_ | refine blk_alloc ?_ _)); exact BK324.out) hb); have n2_ := Aside0.mk (below_step (by repeat (first | (with_reducible first | exact HB.out | apply below_alloc | apply pw_below_drewN | apply below_drew1 | refine below_set ?_ GE324.out) | exact HB.out)) hb); have n3_ := Aside0.mk (hbox); have n4_ := Aside0.mk ((by rw [hg]; exact (below_size (by repeat (first | (with_reducible first | exact HB.out | apply below_alloc | apply pw_below_drewN | apply below_drew1 | refine below_set ?_ GE324.out) | exact HB.out))) : w.heap.size ≤ gb343)); have n5_ := n4_; have n6_ := Aside0.mk ((by rw [hg]; exact Nat.ne_of_lt (blk_lt (g := gb324) (o := .cells #[.int .i64 a1_0, .int .i64 a1_1, .int .i64 a1_2] 23 (0, 0)) (by (with_reducible repeat (first | refine blk_drewN ?_ _ | refine blk_drew ?_ | refine blk_alloc ?_ _)); exact BK324.out)) : gb324 ≠ gb343)); have n7_ := Aside0.mk n6_.out.symm; clear HO_63; clear BK324; clear HB; have HO_63 := n0_; have BK324 := n1_; have HB := n2_; have BK343 := n3_; have GW343 := n4_; have GE343 := n5_; have NB324_343 := n6_; have NB343_324 := n7_; clear n0_ n1_ n2_ n3_ n4_ n5_ n6_ n7_; clear hb hbox hg; have hnb61 := NB343_324.out; have hnc61 := NB324_343.out; have hcz62_0 : w60.cell? ⟨gb343, 0, none⟩ = some (.int .i64 0) := (blk_cell BK343.out 0).trans rfl; have hcz62_1 : w60.cell? ⟨gb343, 1, none⟩ = some (.int .i64 0) := (blk_cell BK343.out 1).trans rfl; have hcz62_2 : w60.cell? ⟨gb343, 2, none⟩ = some (.int .i64 0) := (blk_cell BK343.out 2).trans rfl; have hfz62_0 := blk_frozen BK343.out 0; have hfz62_1 := blk_frozen BK343.out 1; have hfz62_2 := blk_frozen BK343.out 2) | ((with_reducible refine gate_callee (f := 18) rfl ?_); refine goesL_ (some 85) rfl rfl Tryd.func18 (by kernel_rfl) rfl #[.agg #[.int .i64 t339, .int .i64 t340, .int .i64 t341]] rfl (by (try simp only [List.map_toArray, List.map_cons, List.map_nil]); first | done | rfl) ?_; (with_reducible refine (pitch_Text.calls t339 t340 t341 t344 t345 _ ?side1 A45.out).mono ?_); (case side1 => exact GW.step HG_.out (by repeat (first | (with_reducible first | exact HB.out | apply below_alloc | apply pw_below_drewN | apply below_drew1 | refine below_set ?_ GE324.out | refine below_set ?_ GE343.out) | exact HB.out))); rintro e w63 ⟨rfl, hb⟩; refine ⟨_, rfl, ?_⟩; have n0_ := Aside0.mk (Kd.R_below (by (with_reducible repeat (first | apply Kd.R_alloc | apply Kd.R_drewN | apply Kd.R_drew)); exact (Kd.R_mono (Kd.R_far (p := ⟨gb343, 2, none⟩) (Kd.R_far (p := ⟨gb343, 1, none⟩) (Kd.R_far (p := ⟨gb343, 0, none⟩) (Kd.R_types HO_63.out BK343.out (by decide)) (fun _ hk => hk.2) (.int .i64 t339)) (fun _ hk => hk.2) (.int .i64 t340)) (fun _ hk => hk.2) (.int .i64 t341)) (fun _ h_ => h_.1))) hb); have n1_ := Aside0.mk (blk_below (g := gb324) (o := .cells #[.int .i64 a1_0, .int .i64 a1_1, .int .i64 a1_2] 23 (0, 0)) (by (with_reducible repeat (first | refine blk_drewN ?_ _ | refine blk_drew ?_ | refine blk_alloc ?_ _)); refine blk_far ?_ NB324_343.out _; (with_reducible repeat (first | refine blk_drewN ?_ _ | refine blk_drew ?_ | refine blk_alloc ?_ _)); refine blk_far ?_ NB324_343.out _; (with_reducible repeat (first | refine blk_drewN ?_ _ | refine blk_drew ?_ | refine blk_alloc ?_ _)); refine blk_far ?_ NB324_343.out _; (with_reducible repeat (first | refine blk_drewN ?_ _ | refine blk_drew ?_ | refine blk_alloc ?_ _)); exact BK324.out) hb); have n2_ := Aside0.mk (blk_below (g := gb343) (o := .cells #[.int .i64 t339, .int .i64 t340, .int .i64 t341] 23 (0, 0)) (by (with_reducible repeat (first | refine blk_drewN ?_ _ | refine blk_drew ?_ | refine blk_alloc ?_ _)); refine blk_put (cs := #[.int .i64 t339, .int .i64 t340, .int .i64 0]) ?_ 2 _ rfl; (with_reducible repeat (first | refine blk_drewN ?_ _ | refine blk_drew ?_ | refine blk_alloc ?_ _)); refine blk_put (cs := #[.int .i64 t339, .int .i64 0, .int .i64 0]) ?_ 1 _ rfl; (with_reducible repeat (first | refine blk_drewN ?_ _ | refine blk_drew ?_ | refine blk_alloc ?_ _)); refine blk_put (cs := #[.int .i64 0, .int .i64 0, .int .i64 0]) ?_ 0 _ rfl; (with_reducible repeat (first | refine blk_drewN ?_ _ | refine blk_drew ?_ | refine blk_alloc ?_ _)); exact BK343.out) hb); have n3_ := Aside0.mk (below_step (by repeat (first | (with_reducible first | exact HB.out | apply below_alloc | apply pw_below_drewN | apply below_drew1 | refine below_set ?_ GE324.out | refine below_set ?_ GE343.out) | exact HB.out)) hb); clear HO_63; clear BK324; clear BK343; clear HB; have HO_63 := n0_; have BK324 := n1_; have BK343 := n2_; have HB := n3_; clear n0_ n1_ n2_ n3_; (try clear hb); (try clear hb2); (try clear hk); (try clear hi); have hcz64_0 : w63.cell? ⟨gb343, 0, none⟩ = some (.int .i64 t339) := (blk_cell BK343.out 0).trans rfl; have hcz64_1 : w63.cell? ⟨gb343, 1, none⟩ = some (.int .i64 t340) := (blk_cell BK343.out 1).trans rfl; have hcz64_2 : w63.cell? ⟨gb343, 2, none⟩ = some (.int .i64 t341) := (blk_cell BK343.out 2).trans rfl; have hfz64_0 := blk_frozen BK343.out 0; have hfz64_1 := blk_frozen BK343.out 1; have hfz64_2 := blk_frozen BK343.out 2) | (go_at_call 20; (with_reducible refine (pitch_Right.calls t339 t340 t341 true _ ?side1 A48.out).mono ?_); (case side1 => exact GW.step HG_.out (by repeat (first | (with_reducible first | exact HB.out | apply below_alloc | apply pw_below_drewN | apply below_drew1 | refine below_set ?_ GE324.out | refine below_set ?_ GE343.out) | exact HB.out))); rintro e w65 ⟨rfl, hb⟩; have n0_ := Aside0.mk (Kd.R_below (by (with_reducible repeat (first | apply Kd.R_alloc | apply Kd.R_drewN | apply Kd.R_drew)); exact HO_63.out) hb); have n1_ := Aside0.mk (blk_below (g := gb324) (o := .cells #[.int .i64 a1_0, .int .i64 a1_1, .int .i64 a1_2] 23 (0, 0)) (by (with_reducible repeat (first | refine blk_drewN ?_ _ | refine blk_drew ?_ | refine blk_alloc ?_ _)); exact BK324.out) hb); have n2_ := Aside0.mk (blk_below (g := gb343) (o := .cells #[.int .i64 t339, .int .i64 t340, .int .i64 t341] 23 (0, 0)) (by (with_reducible repeat (first | refine blk_drewN ?_ _ | refine blk_drew ?_ | refine blk_alloc ?_ _)); exact BK343.out) hb); have n3_ := Aside0.mk (below_step (by repeat (first | (with_reducible first | exact HB.out | apply below_alloc | apply pw_below_drewN | apply below_drew1 | refine below_set ?_ GE324.out | refine below_set ?_ GE343.out) | exact HB.out)) hb); clear HO_63; clear BK324; clear BK343; clear HB; have HO_63 := n0_; have BK324 := n1_; have BK343 := n2_; have HB := n3_; clear n0_ n1_ n2_ n3_; (try clear hb); (try clear hb2); (try clear hk); (try clear hi)))
                                                  go_roundg k2
                                                  case measure => have := HJ7.out; have := HK2.out; omega
                                                  case rel => exact ⟨(wrap64 (x65_2 + 1)), (by first | rfl | (simp; done) | (simp [*]; done)), H', ⟨by have := HJ7.out; have := HK2.out; omega⟩, ⟨by (with_reducible repeat (first | apply Kd.R_alloc | apply Kd.R_drewN | apply Kd.R_drew)); exact HO_63.out⟩, ⟨by (with_reducible repeat (first | refine blk_drewN ?_ _ | refine blk_drew ?_ | refine blk_alloc ?_ _)); exact BK324.out⟩, ⟨by repeat (first | (with_reducible first | exact HB.out | apply below_alloc | apply pw_below_drewN | apply below_drew1 | refine below_set ?_ GE324.out | refine below_set ?_ GE343.out) | exact HB.out)⟩⟩
                                              · replace c49 := Bool.eq_false_iff.mpr c49
                                                subst c49
                                                have H1 : (if t325 = true then (if (rdOf ByteArray.empty y335 x65_2).toList = t329.toList then (some (t344.toList == (rdOf ByteArray.empty y335 x65_2).toList)) else (some false)) else (some false)) = some r := by rw [if_neg (show ¬ (false = true) by decide)] at H; exact H
                                                clear H
                                                have H := H1
                                                clear H1
                                                by_cases c66 : t325 = true
                                                · subst c66
                                                  have H1 : (if (rdOf ByteArray.empty y335 x65_2).toList = t329.toList then (some (t344.toList == (rdOf ByteArray.empty y335 x65_2).toList)) else (some false)) = some r := by rw [if_pos rfl] at H; exact H
                                                  clear H
                                                  have H := H1
                                                  clear H1
                                                  by_cases c67 : (rdOf ByteArray.empty y335 x65_2).toList = t329.toList
                                                  · rw [if_pos c67] at H
                                                    have c67b0 : ((rdOf ByteArray.empty y335 x65_2).toList == t329.toList) = true := beq_iff_eq.mpr c67
                                                    have c67b1 : ((rdOf ByteArray.empty y335 x65_2).toList != t329.toList) = false := bne_eq_false_iff_eq.mpr c67
                                                    clear c67
                                                    obtain rfl := Option.some.inj H
                                                    have p338 : 0 ≤ (x65_2 : Int) := of_decide_eq_true (by first | (with_reducible assumption) | assumption)
                                                    have q338 : x65_2 < (y335.length : Int) := of_decide_eq_true (by first | (with_reducible assumption) | assumption)
                                                    obtain ⟨ad338, e338, hx338_0⟩ := Kd.at_string (Kd.R_reads' HO_63.out).2.2 x65_2 p338 q338
                                                    cases e338
                                                    replace p338 := eq_true p338
                                                    replace q338 := eq_true q338
                                                    go_wp2_with (first | ((with_reducible refine gate_callee (f := 29) rfl ?_); refine goesL_ (some 71) rfl rfl Tryd.func29 (by kernel_rfl) rfl #[.string (rdOf ByteArray.empty y335 x65_2)] rfl (by (try simp only [List.map_toArray, List.map_cons, List.map_nil]); first | done | rfl) ?_; (with_reducible refine (pitch_Read.calls (rdOf ByteArray.empty y335 x65_2) t339 t340 t341 t342 _ ?side1 A43.out).mono ?_); (case side1 => exact GW.step HG_.out (by repeat (first | (with_reducible first | exact HB.out | apply below_alloc | apply pw_below_drewN | apply below_drew1 | refine below_set ?_ GE324.out) | exact HB.out))); rintro e w68 ⟨rfl, hb⟩; refine ⟨_, rfl, ?_⟩; have n0_ := Aside0.mk (Kd.R_below (by (with_reducible repeat (first | apply Kd.R_alloc | apply Kd.R_drewN | apply Kd.R_drew)); exact HO_63.out) hb); have n1_ := Aside0.mk (blk_below (g := gb324) (o := .cells #[.int .i64 a1_0, .int .i64 a1_1, .int .i64 a1_2] 23 (0, 0)) (by (with_reducible repeat (first | refine blk_drewN ?_ _ | refine blk_drew ?_ | refine blk_alloc ?_ _)); exact BK324.out) hb); have n2_ := Aside0.mk (below_step (by repeat (first | (with_reducible first | exact HB.out | apply below_alloc | apply pw_below_drewN | apply below_drew1 | refine below_set ?_ GE324.out) | exact HB.out)) hb); clear HO_63; clear BK324; clear HB; have HO_63 := n0_; have BK324 := n1_; have HB := n2_; clear n0_ n1_ n2_; (try clear hb); (try clear hb2); (try clear hk); (try clear hi)) | ((with_reducible refine gate_dst (N := 15) rfl ?_); refine box_event ?hg (N := 15) ?hd (cs := #[.int .i64 0, .int .i64 0, .int .i64 0]) (t := 23) ?hr ?_; (case hd => rfl); (case hg => rfl); (case hr => first | (go_simp; done) | (go_simp; rfl)); intro gb343 hg w69 hbox hb; have n0_ := Aside0.mk (Kd.R_below (by (with_reducible repeat (first | apply Kd.R_alloc | apply Kd.R_drewN | apply Kd.R_drew)); exact HO_63.out) hb); have n1_ := Aside0.mk (blk_below (g := gb324) (o := .cells #[.int .i64 a1_0, .int .i64 a1_1, .int .i64 a1_2] 23 (0, 0)) (by (with_reducible repeat (first | refine blk_drewN ?_ _ | refine blk_drew ?_ | refine blk_alloc ?_ _)); exact BK324.out) hb); have n2_ := Aside0.mk (below_step (by repeat (first | (with_reducible first | exact HB.out | apply below_alloc | apply pw_below_drewN | apply below_drew1 | refine below_set ?_ GE324.out) | exact HB.out)) hb); have n3_ := Aside0.mk (hbox); have n4_ := Aside0.mk ((by rw [hg]; exact (below_size (by repeat (first | (with_reducible first | exact HB.out | apply below_alloc | apply pw_below_drewN | apply below_drew1 | refine below_set ?_ GE324.out) | exact HB.out))) : w.heap.size ≤ gb343)); have n5_ := n4_; have n6_ := Aside0.mk ((by rw [hg]; exact Nat.ne_of_lt (blk_lt (g := gb324) (o := .cells #[.int .i64 a1_0, .int .i64 a1_1, .int .i64 a1_2] 23 (0, 0)) (by (with_reducible repeat (first | refine blk_drewN ?_ _ | refine blk_drew ?_ | refine blk_alloc ?_ _)); exact BK324.out)) : gb324 ≠ gb343)); have n7_ := Aside0.mk n6_.out.symm; clear HO_63; clear BK324; clear HB; have HO_63 := n0_; have BK324 := n1_; have HB := n2_; have BK343 := n3_; have GW343 := n4_; have GE343 := n5_; have NB324_343 := n6_; have NB343_324 := n7_; clear n0_ n1_ n2_ n3_ n4_ n5_ n6_ n7_; clear hb hbox hg; have hnb70 := NB343_324.out; have hnc70 := NB324_343.out; have hcz71_0 : w69.cell? ⟨gb343, 0, none⟩ = some (.int .i64 0) := (blk_cell BK343.out 0).trans rfl; have hcz71_1 : w69.cell? ⟨gb343, 1, none⟩ = some (.int .i64 0) := (blk_cell BK343.out 1).trans rfl; have hcz71_2 : w69.cell? ⟨gb343, 2, none⟩ = some (.int .i64 0) := (blk_cell BK343.out 2).trans rfl; have hfz71_0 := blk_frozen BK343.out 0; have hfz71_1 := blk_frozen BK343.out 1; have hfz71_2 := blk_frozen BK343.out 2) | ((with_reducible refine gate_callee (f := 18) rfl ?_); refine goesL_ (some 85) rfl rfl Tryd.func18 (by kernel_rfl) rfl #[.agg #[.int .i64 t339, .int .i64 t340, .int .i64 t341]] rfl (by (try simp only [List.map_toArray, List.map_cons, List.map_nil]); first | done | rfl) ?_; (with_reducible refine (pitch_Text.calls t339 t340 t341 t344 t345 _ ?side1 A45.out).mono ?_); (case side1 => exact GW.step HG_.out (by repeat (first | (with_reducible first | exact HB.out | apply below_alloc | apply pw_below_drewN | apply below_drew1 | refine below_set ?_ GE324.out | refine below_set ?_ GE343.out) | exact HB.out))); rintro e w72 ⟨rfl, hb⟩; refine ⟨_, rfl, ?_⟩; have n0_ := Aside0.mk (Kd.R_below (by (with_reducible repeat (first | apply Kd.R_alloc | apply Kd.R_drewN | apply Kd.R_drew)); exact (Kd.R_mono (Kd.R_far (p := ⟨gb343, 2, none⟩) (Kd.R_far (p := ⟨gb343, 1, none⟩) (Kd.R_far (p := ⟨gb343, 0, none⟩) (Kd.R_types HO_63.out BK343.out (by decide)) (fun _ hk => hk.2) (.int .i64 t339)) (fun _ hk => hk.2) (.int .i64 t340)) (fun _ hk => hk.2) (.int .i64 t341)) (fun _ h_ => h_.1))) hb); have n1_ := Aside0.mk (blk_below (g := gb324) (o := .cells #[.int .i64 a1_0, .int .i64 a1_1, .int .i64 a1_2] 23 (0, 0)) (by (with_reducible repeat (first | refine blk_drewN ?_ _ | refine blk_drew ?_ | refine blk_alloc ?_ _)); refine blk_far ?_ NB324_343.out _; (with_reducible repeat (first | refine blk_drewN ?_ _ | refine blk_drew ?_ | refine blk_alloc ?_ _)); refine blk_far ?_ NB324_343.out _; (with_reducible repeat (first | refine blk_drewN ?_ _ | refine blk_drew ?_ | refine blk_alloc ?_ _)); refine blk_far ?_ NB324_343.out _; (with_reducible repeat (first | refine blk_drewN ?_ _ | refine blk_drew ?_ | refine blk_alloc ?_ _)); exact BK324.out) hb); have n2_ := Aside0.mk (blk_below (g := gb343) (o := .cells #[.int .i64 t339, .int .i64 t340, .int .i64 t341] 23 (0, 0)) (by (with_reducible repeat (first | refine blk_drewN ?_ _ | refine blk_drew ?_ | refine blk_alloc ?_ _)); refine blk_put (cs := #[.int .i64 t339, .int .i64 t340, .int .i64 0]) ?_ 2 _ rfl; (with_reducible repeat (first | refine blk_drewN ?_ _ | refine blk_drew ?_ | refine blk_alloc ?_ _)); refine blk_put (cs := #[.int .i64 t339, .int .i64 0, .int .i64 0]) ?_ 1 _ rfl; (with_reducible repeat (first | refine blk_drewN ?_ _ | refine blk_drew ?_ | refine blk_alloc ?_ _)); refine blk_put (cs := #[.int .i64 0, .int .i64 0, .int .i64 0]) ?_ 0 _ rfl; (with_reducible repeat (first | refine blk_drewN ?_ _ | refine blk_drew ?_ | refine blk_alloc ?_ _)); exact BK343.out) hb); have n3_ := Aside0.mk (below_step (by repeat (first | (with_reducible first | exact HB.out | apply below_alloc | apply pw_below_drewN | apply below_drew1 | refine below_set ?_ GE324.out | refine below_set ?_ GE343.out) | exact HB.out)) hb); clear HO_63; clear BK324; clear BK343; clear HB; have HO_63 := n0_; have BK324 := n1_; have BK343 := n2_; have HB := n3_; clear n0_ n1_ n2_ n3_; (try clear hb); (try clear hb2); (try clear hk); (try clear hi); have hcz73_0 : w72.cell? ⟨gb343, 0, none⟩ = some (.int .i64 t339) := (blk_cell BK343.out 0).trans rfl; have hcz73_1 : w72.cell? ⟨gb343, 1, none⟩ = some (.int .i64 t340) := (blk_cell BK343.out 1).trans rfl; have hcz73_2 : w72.cell? ⟨gb343, 2, none⟩ = some (.int .i64 t341) := (blk_cell BK343.out 2).trans rfl; have hfz73_0 := blk_frozen BK343.out 0; have hfz73_1 := blk_frozen BK343.out 1; have hfz73_2 := blk_frozen BK343.out 2) | (go_at_call 20; (with_reducible refine (pitch_Right.calls t339 t340 t341 false _ ?side1 A48.out).mono ?_); (case side1 => exact GW.step HG_.out (by repeat (first | (with_reducible first | exact HB.out | apply below_alloc | apply pw_below_drewN | apply below_drew1 | refine below_set ?_ GE324.out | refine below_set ?_ GE343.out) | exact HB.out))); rintro e w74 ⟨rfl, hb⟩; have n0_ := Aside0.mk (Kd.R_below (by (with_reducible repeat (first | apply Kd.R_alloc | apply Kd.R_drewN | apply Kd.R_drew)); exact HO_63.out) hb); have n1_ := Aside0.mk (blk_below (g := gb324) (o := .cells #[.int .i64 a1_0, .int .i64 a1_1, .int .i64 a1_2] 23 (0, 0)) (by (with_reducible repeat (first | refine blk_drewN ?_ _ | refine blk_drew ?_ | refine blk_alloc ?_ _)); exact BK324.out) hb); have n2_ := Aside0.mk (blk_below (g := gb343) (o := .cells #[.int .i64 t339, .int .i64 t340, .int .i64 t341] 23 (0, 0)) (by (with_reducible repeat (first | refine blk_drewN ?_ _ | refine blk_drew ?_ | refine blk_alloc ?_ _)); exact BK343.out) hb); have n3_ := Aside0.mk (below_step (by repeat (first | (with_reducible first | exact HB.out | apply below_alloc | apply pw_below_drewN | apply below_drew1 | refine below_set ?_ GE324.out | refine below_set ?_ GE343.out) | exact HB.out)) hb); clear HO_63; clear BK324; clear BK343; clear HB; have HO_63 := n0_; have BK324 := n1_; have BK343 := n2_; have HB := n3_; clear n0_ n1_ n2_ n3_; (try clear hb); (try clear hb2); (try clear hk); (try clear hi)))
                                                    go_ret
                                                    exact ⟨by first | rfl | (simp [errW_none, errW_some] <;> rfl) | (simp only [← hji17, ← hji26, ← hji29]; first | rfl | (simp [errW_none, errW_some] <;> rfl)) | (simp [*, errW_none, errW_some] <;> rfl), by repeat (first | (with_reducible first | exact HB.out | apply below_alloc | apply pw_below_drewN | apply below_drew1 | refine below_set ?_ GE324.out | refine below_set ?_ GE343.out) | exact HB.out)⟩
                                                  · rw [if_neg c67] at H
                                                    have c67b0 : ((rdOf ByteArray.empty y335 x65_2).toList == t329.toList) = false := beq_eq_false_iff_ne.mpr c67
                                                    have c67b1 : ((rdOf ByteArray.empty y335 x65_2).toList != t329.toList) = true := bne_iff_ne.mpr c67
                                                    exact absurd H (by rw [HR_.out]; simp)
                                                · replace c66 := Bool.eq_false_iff.mpr c66
                                                  subst c66
                                                  have H1 : (some false) = some r := by rw [if_neg (show ¬ (false = true) by decide)] at H; exact H
                                                  clear H
                                                  have H := H1
                                                  clear H1
                                                  exact absurd H (by rw [HR_.out]; simp)
                                            · rw [if_neg c47] at H
                                              have c47b0 : (t344.toList == (rdOf ByteArray.empty y335 x65_2).toList) = false := beq_eq_false_iff_ne.mpr c47
                                              have c47b1 : (t344.toList != (rdOf ByteArray.empty y335 x65_2).toList) = true := bne_iff_ne.mpr c47
                                              by_cases c75 : t325 = true
                                              · subst c75
                                                have H1 : (if (rdOf ByteArray.empty y335 x65_2).toList = t329.toList then (some (t344.toList == (rdOf ByteArray.empty y335 x65_2).toList)) else (some false)) = some r := by rw [if_pos rfl] at H; exact H
                                                clear H
                                                have H := H1
                                                clear H1
                                                by_cases c76 : (rdOf ByteArray.empty y335 x65_2).toList = t329.toList
                                                · rw [if_pos c76] at H
                                                  have c76b0 : ((rdOf ByteArray.empty y335 x65_2).toList == t329.toList) = true := beq_iff_eq.mpr c76
                                                  have c76b1 : ((rdOf ByteArray.empty y335 x65_2).toList != t329.toList) = false := bne_eq_false_iff_eq.mpr c76
                                                  clear c76
                                                  obtain rfl := Option.some.inj H
                                                  have p338 : 0 ≤ (x65_2 : Int) := of_decide_eq_true (by first | (with_reducible assumption) | assumption)
                                                  have q338 : x65_2 < (y335.length : Int) := of_decide_eq_true (by first | (with_reducible assumption) | assumption)
                                                  obtain ⟨ad338, e338, hx338_0⟩ := Kd.at_string (Kd.R_reads' HO_63.out).2.2 x65_2 p338 q338
                                                  cases e338
                                                  replace p338 := eq_true p338
                                                  replace q338 := eq_true q338
                                                  go_wp2_with (first | ((with_reducible refine gate_callee (f := 29) rfl ?_); refine goesL_ (some 71) rfl rfl Tryd.func29 (by kernel_rfl) rfl #[.string (rdOf ByteArray.empty y335 x65_2)] rfl (by (try simp only [List.map_toArray, List.map_cons, List.map_nil]); first | done | rfl) ?_; (with_reducible refine (pitch_Read.calls (rdOf ByteArray.empty y335 x65_2) t339 t340 t341 t342 _ ?side1 A43.out).mono ?_); (case side1 => exact GW.step HG_.out (by repeat (first | (with_reducible first | exact HB.out | apply below_alloc | apply pw_below_drewN | apply below_drew1 | refine below_set ?_ GE324.out) | exact HB.out))); rintro e w77 ⟨rfl, hb⟩; refine ⟨_, rfl, ?_⟩; have n0_ := Aside0.mk (Kd.R_below (by (with_reducible repeat (first | apply Kd.R_alloc | apply Kd.R_drewN | apply Kd.R_drew)); exact HO_63.out) hb); have n1_ := Aside0.mk (blk_below (g := gb324) (o := .cells #[.int .i64 a1_0, .int .i64 a1_1, .int .i64 a1_2] 23 (0, 0)) (by (with_reducible repeat (first | refine blk_drewN ?_ _ | refine blk_drew ?_ | refine blk_alloc ?_ _)); exact BK324.out) hb); have n2_ := Aside0.mk (below_step (by repeat (first | (with_reducible first | exact HB.out | apply below_alloc | apply pw_below_drewN | apply below_drew1 | refine below_set ?_ GE324.out) | exact HB.out)) hb); clear HO_63; clear BK324; clear HB; have HO_63 := n0_; have BK324 := n1_; have HB := n2_; clear n0_ n1_ n2_; (try clear hb); (try clear hb2); (try clear hk); (try clear hi)) | ((with_reducible refine gate_dst (N := 15) rfl ?_); refine box_event ?hg (N := 15) ?hd (cs := #[.int .i64 0, .int .i64 0, .int .i64 0]) (t := 23) ?hr ?_; (case hd => rfl); (case hg => rfl); (case hr => first | (go_simp; done) | (go_simp; rfl)); intro gb343 hg w78 hbox hb; have n0_ := Aside0.mk (Kd.R_below (by (with_reducible repeat (first | apply Kd.R_alloc | apply Kd.R_drewN | apply Kd.R_drew)); exact HO_63.out) hb); have n1_ := Aside0.mk (blk_below (g := gb324) (o := .cells #[.int .i64 a1_0, .int .i64 a1_1, .int .i64 a1_2] 23 (0, 0)) (by (with_reducible repeat (first | refine blk_drewN ?_ _ | refine blk_drew ?_ | refine blk_alloc ?_ _)); exact BK324.out) hb); have n2_ := Aside0.mk (below_step (by repeat (first | (with_reducible first | exact HB.out | apply below_alloc | apply pw_below_drewN | apply below_drew1 | refine below_set ?_ GE324.out) | exact HB.out)) hb); have n3_ := Aside0.mk (hbox); have n4_ := Aside0.mk ((by rw [hg]; exact (below_size (by repeat (first | (with_reducible first | exact HB.out | apply below_alloc | apply pw_below_drewN | apply below_drew1 | refine below_set ?_ GE324.out) | exact HB.out))) : w.heap.size ≤ gb343)); have n5_ := n4_; have n6_ := Aside0.mk ((by rw [hg]; exact Nat.ne_of_lt (blk_lt (g := gb324) (o := .cells #[.int .i64 a1_0, .int .i64 a1_1, .int .i64 a1_2] 23 (0, 0)) (by (with_reducible repeat (first | refine blk_drewN ?_ _ | refine blk_drew ?_ | refine blk_alloc ?_ _)); exact BK324.out)) : gb324 ≠ gb343)); have n7_ := Aside0.mk n6_.out.symm; clear HO_63; clear BK324; clear HB; have HO_63 := n0_; have BK324 := n1_; have HB := n2_; have BK343 := n3_; have GW343 := n4_; have GE343 := n5_; have NB324_343 := n6_; have NB343_324 := n7_; clear n0_ n1_ n2_ n3_ n4_ n5_ n6_ n7_; clear hb hbox hg; have hnb79 := NB343_324.out; have hnc79 := NB324_343.out; have hcz80_0 : w78.cell? ⟨gb343, 0, none⟩ = some (.int .i64 0) := (blk_cell BK343.out 0).trans rfl; have hcz80_1 : w78.cell? ⟨gb343, 1, none⟩ = some (.int .i64 0) := (blk_cell BK343.out 1).trans rfl; have hcz80_2 : w78.cell? ⟨gb343, 2, none⟩ = some (.int .i64 0) := (blk_cell BK343.out 2).trans rfl; have hfz80_0 := blk_frozen BK343.out 0; have hfz80_1 := blk_frozen BK343.out 1; have hfz80_2 := blk_frozen BK343.out 2) | ((with_reducible refine gate_callee (f := 18) rfl ?_); refine goesL_ (some 85) rfl rfl Tryd.func18 (by kernel_rfl) rfl #[.agg #[.int .i64 t339, .int .i64 t340, .int .i64 t341]] rfl (by (try simp only [List.map_toArray, List.map_cons, List.map_nil]); first | done | rfl) ?_; (with_reducible refine (pitch_Text.calls t339 t340 t341 t344 t345 _ ?side1 A45.out).mono ?_); (case side1 => exact GW.step HG_.out (by repeat (first | (with_reducible first | exact HB.out | apply below_alloc | apply pw_below_drewN | apply below_drew1 | refine below_set ?_ GE324.out | refine below_set ?_ GE343.out) | exact HB.out))); rintro e w81 ⟨rfl, hb⟩; refine ⟨_, rfl, ?_⟩; have n0_ := Aside0.mk (Kd.R_below (by (with_reducible repeat (first | apply Kd.R_alloc | apply Kd.R_drewN | apply Kd.R_drew)); exact (Kd.R_mono (Kd.R_far (p := ⟨gb343, 2, none⟩) (Kd.R_far (p := ⟨gb343, 1, none⟩) (Kd.R_far (p := ⟨gb343, 0, none⟩) (Kd.R_types HO_63.out BK343.out (by decide)) (fun _ hk => hk.2) (.int .i64 t339)) (fun _ hk => hk.2) (.int .i64 t340)) (fun _ hk => hk.2) (.int .i64 t341)) (fun _ h_ => h_.1))) hb); have n1_ := Aside0.mk (blk_below (g := gb324) (o := .cells #[.int .i64 a1_0, .int .i64 a1_1, .int .i64 a1_2] 23 (0, 0)) (by (with_reducible repeat (first | refine blk_drewN ?_ _ | refine blk_drew ?_ | refine blk_alloc ?_ _)); refine blk_far ?_ NB324_343.out _; (with_reducible repeat (first | refine blk_drewN ?_ _ | refine blk_drew ?_ | refine blk_alloc ?_ _)); refine blk_far ?_ NB324_343.out _; (with_reducible repeat (first | refine blk_drewN ?_ _ | refine blk_drew ?_ | refine blk_alloc ?_ _)); refine blk_far ?_ NB324_343.out _; (with_reducible repeat (first | refine blk_drewN ?_ _ | refine blk_drew ?_ | refine blk_alloc ?_ _)); exact BK324.out) hb); have n2_ := Aside0.mk (blk_below (g := gb343) (o := .cells #[.int .i64 t339, .int .i64 t340, .int .i64 t341] 23 (0, 0)) (by (with_reducible repeat (first | refine blk_drewN ?_ _ | refine blk_drew ?_ | refine blk_alloc ?_ _)); refine blk_put (cs := #[.int .i64 t339, .int .i64 t340, .int .i64 0]) ?_ 2 _ rfl; (with_reducible repeat (first | refine blk_drewN ?_ _ | refine blk_drew ?_ | refine blk_alloc ?_ _)); refine blk_put (cs := #[.int .i64 t339, .int .i64 0, .int .i64 0]) ?_ 1 _ rfl; (with_reducible repeat (first | refine blk_drewN ?_ _ | refine blk_drew ?_ | refine blk_alloc ?_ _)); refine blk_put (cs := #[.int .i64 0, .int .i64 0, .int .i64 0]) ?_ 0 _ rfl; (with_reducible repeat (first | refine blk_drewN ?_ _ | refine blk_drew ?_ | refine blk_alloc ?_ _)); exact BK343.out) hb); have n3_ := Aside0.mk (below_step (by repeat (first | (with_reducible first | exact HB.out | apply below_alloc | apply pw_below_drewN | apply below_drew1 | refine below_set ?_ GE324.out | refine below_set ?_ GE343.out) | exact HB.out)) hb); clear HO_63; clear BK324; clear BK343; clear HB; have HO_63 := n0_; have BK324 := n1_; have BK343 := n2_; have HB := n3_; clear n0_ n1_ n2_ n3_; (try clear hb); (try clear hb2); (try clear hk); (try clear hi)))
                                                  go_ret
                                                  exact ⟨by first | rfl | (simp [errW_none, errW_some] <;> rfl) | (simp only [← hji17, ← hji26, ← hji29]; first | rfl | (simp [errW_none, errW_some] <;> rfl)) | (simp [*, errW_none, errW_some] <;> rfl), by repeat (first | (with_reducible first | exact HB.out | apply below_alloc | apply pw_below_drewN | apply below_drew1 | refine below_set ?_ GE324.out | refine below_set ?_ GE343.out) | exact HB.out)⟩
                                                · rw [if_neg c76] at H
                                                  have c76b0 : ((rdOf ByteArray.empty y335 x65_2).toList == t329.toList) = false := beq_eq_false_iff_ne.mpr c76
                                                  have c76b1 : ((rdOf ByteArray.empty y335 x65_2).toList != t329.toList) = true := bne_iff_ne.mpr c76
                                                  exact absurd H (by rw [HR_.out]; simp)
                                              · replace c75 := Bool.eq_false_iff.mpr c75
                                                subst c75
                                                have H1 : (some false) = some r := by rw [if_neg (show ¬ (false = true) by decide)] at H; exact H
                                                clear H
                                                have H := H1
                                                clear H1
                                                exact absurd H (by rw [HR_.out]; simp)
                                          · rw [if_neg c46] at H
                                            have c46b0 : (t345 == 0) = false := beq_eq_false_iff_ne.mpr c46
                                            have c46b1 : (t345 != 0) = true := bne_iff_ne.mpr c46
                                            by_cases c82 : t325 = true
                                            · subst c82
                                              have H1 : (if (rdOf ByteArray.empty y335 x65_2).toList = t329.toList then (some false) else (some false)) = some r := by rw [if_pos rfl] at H; exact H
                                              clear H
                                              have H := H1
                                              clear H1
                                              by_cases c83 : (rdOf ByteArray.empty y335 x65_2).toList = t329.toList
                                              · rw [if_pos c83] at H
                                                have c83b0 : ((rdOf ByteArray.empty y335 x65_2).toList == t329.toList) = true := beq_iff_eq.mpr c83
                                                have c83b1 : ((rdOf ByteArray.empty y335 x65_2).toList != t329.toList) = false := bne_eq_false_iff_eq.mpr c83
                                                clear c83
                                                exact absurd H (by rw [HR_.out]; simp)
                                              · rw [if_neg c83] at H
                                                have c83b0 : ((rdOf ByteArray.empty y335 x65_2).toList == t329.toList) = false := beq_eq_false_iff_ne.mpr c83
                                                have c83b1 : ((rdOf ByteArray.empty y335 x65_2).toList != t329.toList) = true := bne_iff_ne.mpr c83
                                                exact absurd H (by rw [HR_.out]; simp)
                                            · replace c82 := Bool.eq_false_iff.mpr c82
                                              subst c82
                                              have H1 : (some false) = some r := by rw [if_neg (show ¬ (false = true) by decide)] at H; exact H
                                              clear H
                                              have H := H1
                                              clear H1
                                              exact absurd H (by rw [HR_.out]; simp)
                                        · rw [if_neg c44] at H
                                          have c44b0 : (t342 == 0) = false := beq_eq_false_iff_ne.mpr c44
                                          have c44b1 : (t342 != 0) = true := bne_iff_ne.mpr c44
                                          by_cases c84 : t342 = 21
                                          · rw [if_pos c84] at H
                                            have c84b0 : (t342 == 21) = true := beq_iff_eq.mpr c84
                                            have c84b1 : (t342 != 21) = false := bne_eq_false_iff_eq.mpr c84
                                            clear c84
                                            by_cases c85 : (!(t339 == 0) || (!(t340 == 0) || (!(t341 == 0)))) = true
                                            · rw [if_pos c85] at H
                                              have c85b0 : (!(t339 == 0) || (!(t340 == 0) || (!(t341 == 0)))) = true := c85
                                              clear c85
                                              exact absurd H (by rw [HR_.out]; simp)
                                            · rw [if_neg c85] at H
                                              have c85b0 : (!(t339 == 0) || (!(t340 == 0) || (!(t341 == 0)))) = false := by simpa using c85
                                              clear c85
                                              have H' := Aside0.mk H
                                              clear H
                                              have p338 : 0 ≤ (x65_2 : Int) := of_decide_eq_true (by first | (with_reducible assumption) | assumption)
                                              have q338 : x65_2 < (y335.length : Int) := of_decide_eq_true (by first | (with_reducible assumption) | assumption)
                                              obtain ⟨ad338, e338, hx338_0⟩ := Kd.at_string (Kd.R_reads' HO_63.out).2.2 x65_2 p338 q338
                                              cases e338
                                              replace p338 := eq_true p338
                                              replace q338 := eq_true q338
                                              go_wp2_with (first | ((with_reducible refine gate_callee (f := 29) rfl ?_); refine goesL_ (some 71) rfl rfl Tryd.func29 (by kernel_rfl) rfl #[.string (rdOf ByteArray.empty y335 x65_2)] rfl (by (try simp only [List.map_toArray, List.map_cons, List.map_nil]); first | done | rfl) ?_; (with_reducible refine (pitch_Read.calls (rdOf ByteArray.empty y335 x65_2) t339 t340 t341 t342 _ ?side1 A43.out).mono ?_); (case side1 => exact GW.step HG_.out (by repeat (first | (with_reducible first | exact HB.out | apply below_alloc | apply pw_below_drewN | apply below_drew1 | refine below_set ?_ GE324.out) | exact HB.out))); rintro e w86 ⟨rfl, hb⟩; refine ⟨_, rfl, ?_⟩; have n0_ := Aside0.mk (Kd.R_below (by (with_reducible repeat (first | apply Kd.R_alloc | apply Kd.R_drewN | apply Kd.R_drew)); exact HO_63.out) hb); have n1_ := Aside0.mk (blk_below (g := gb324) (o := .cells #[.int .i64 a1_0, .int .i64 a1_1, .int .i64 a1_2] 23 (0, 0)) (by (with_reducible repeat (first | refine blk_drewN ?_ _ | refine blk_drew ?_ | refine blk_alloc ?_ _)); exact BK324.out) hb); have n2_ := Aside0.mk (below_step (by repeat (first | (with_reducible first | exact HB.out | apply below_alloc | apply pw_below_drewN | apply below_drew1 | refine below_set ?_ GE324.out) | exact HB.out)) hb); clear HO_63; clear BK324; clear HB; have HO_63 := n0_; have BK324 := n1_; have HB := n2_; clear n0_ n1_ n2_; (try clear hb); (try clear hb2); (try clear hk); (try clear hi)) | ((with_reducible refine gate_dst (N := 15) rfl ?_); refine box_event ?hg (N := 15) ?hd (cs := #[.int .i64 0, .int .i64 0, .int .i64 0]) (t := 23) ?hr ?_; (case hd => rfl); (case hg => rfl); (case hr => first | (go_simp; done) | (go_simp; rfl)); intro gb343 hg w87 hbox hb; have n0_ := Aside0.mk (Kd.R_below (by (with_reducible repeat (first | apply Kd.R_alloc | apply Kd.R_drewN | apply Kd.R_drew)); exact HO_63.out) hb); have n1_ := Aside0.mk (blk_below (g := gb324) (o := .cells #[.int .i64 a1_0, .int .i64 a1_1, .int .i64 a1_2] 23 (0, 0)) (by (with_reducible repeat (first | refine blk_drewN ?_ _ | refine blk_drew ?_ | refine blk_alloc ?_ _)); exact BK324.out) hb); have n2_ := Aside0.mk (below_step (by repeat (first | (with_reducible first | exact HB.out | apply below_alloc | apply pw_below_drewN | apply below_drew1 | refine below_set ?_ GE324.out) | exact HB.out)) hb); have n3_ := Aside0.mk (hbox); have n4_ := Aside0.mk ((by rw [hg]; exact (below_size (by repeat (first | (with_reducible first | exact HB.out | apply below_alloc | apply pw_below_drewN | apply below_drew1 | refine below_set ?_ GE324.out) | exact HB.out))) : w.heap.size ≤ gb343)); have n5_ := n4_; have n6_ := Aside0.mk ((by rw [hg]; exact Nat.ne_of_lt (blk_lt (g := gb324) (o := .cells #[.int .i64 a1_0, .int .i64 a1_1, .int .i64 a1_2] 23 (0, 0)) (by (with_reducible repeat (first | refine blk_drewN ?_ _ | refine blk_drew ?_ | refine blk_alloc ?_ _)); exact BK324.out)) : gb324 ≠ gb343)); have n7_ := Aside0.mk n6_.out.symm; clear HO_63; clear BK324; clear HB; have HO_63 := n0_; have BK324 := n1_; have HB := n2_; have BK343 := n3_; have GW343 := n4_; have GE343 := n5_; have NB324_343 := n6_; have NB343_324 := n7_; clear n0_ n1_ n2_ n3_ n4_ n5_ n6_ n7_; clear hb hbox hg; have hnb88 := NB343_324.out; have hnc88 := NB324_343.out; have hcz89_0 : w87.cell? ⟨gb343, 0, none⟩ = some (.int .i64 0) := (blk_cell BK343.out 0).trans rfl; have hcz89_1 : w87.cell? ⟨gb343, 1, none⟩ = some (.int .i64 0) := (blk_cell BK343.out 1).trans rfl; have hcz89_2 : w87.cell? ⟨gb343, 2, none⟩ = some (.int .i64 0) := (blk_cell BK343.out 2).trans rfl; have hfz89_0 := blk_frozen BK343.out 0; have hfz89_1 := blk_frozen BK343.out 1; have hfz89_2 := blk_frozen BK343.out 2))
                                              go_roundg k2
                                              case measure => have := HJ7.out; have := HK2.out; omega
                                              case rel => exact ⟨(wrap64 (x65_2 + 1)), (by first | rfl | (simp; done) | (simp [*]; done)), H', ⟨by have := HJ7.out; have := HK2.out; omega⟩, ⟨by (with_reducible repeat (first | apply Kd.R_alloc | apply Kd.R_drewN | apply Kd.R_drew)); exact Kd.R_mono (Kd.R_far (p := ⟨gb343, 2, none⟩) (Kd.R_far (p := ⟨gb343, 1, none⟩) (Kd.R_far (p := ⟨gb343, 0, none⟩) (Kd.R_types HO_63.out BK343.out (by decide)) (fun _ hk => hk.2) (.int .i64 t339)) (fun _ hk => hk.2) (.int .i64 t340)) (fun _ hk => hk.2) (.int .i64 t341)) (fun _ hk => trivial)⟩, ⟨by (with_reducible repeat (first | refine blk_drewN ?_ _ | refine blk_drew ?_ | refine blk_alloc ?_ _)); refine blk_far ?_ NB324_343.out _; (with_reducible repeat (first | refine blk_drewN ?_ _ | refine blk_drew ?_ | refine blk_alloc ?_ _)); refine blk_far ?_ NB324_343.out _; (with_reducible repeat (first | refine blk_drewN ?_ _ | refine blk_drew ?_ | refine blk_alloc ?_ _)); refine blk_far ?_ NB324_343.out _; (with_reducible repeat (first | refine blk_drewN ?_ _ | refine blk_drew ?_ | refine blk_alloc ?_ _)); exact BK324.out⟩, ⟨by repeat (first | (with_reducible first | exact HB.out | apply below_alloc | apply pw_below_drewN | apply below_drew1 | refine below_set ?_ GE324.out | refine below_set ?_ GE343.out) | exact HB.out)⟩⟩
                                          · rw [if_neg c84] at H
                                            have c84b0 : (t342 == 21) = false := beq_eq_false_iff_ne.mpr c84
                                            have c84b1 : (t342 != 21) = true := bne_iff_ne.mpr c84
                                            exact absurd H (by rw [HR_.out]; simp)
                                      · rw [if_neg c42] at H
                                        exact absurd H (by simp)
                                    · rw [if_neg c41] at H
                                      exact absurd H (by simp)
                                  · rw [if_neg c40] at H
                                    have c40b0 : decide (x65_2 < (y335.length : Int)) = false := decide_eq_false c40
                                    clear c40
                                    obtain rfl := Option.some.inj H
                                    go_wp2
                                    go_ret
                                    exact ⟨by first | rfl | (simp [errW_none, errW_some] <;> rfl) | (simp only [← hji17, ← hji26, ← hji29]; first | rfl | (simp [errW_none, errW_some] <;> rfl)) | (simp [*, errW_none, errW_some] <;> rfl), by repeat (first | (with_reducible first | exact HB.out | apply below_alloc | apply pw_below_drewN | apply below_drew1 | refine below_set ?_ GE324.out) | exact HB.out)⟩
                            · rw [if_neg c32] at H
                              exact absurd H (by simp)
                          · rw [if_neg c31] at H
                            exact absurd H (by simp)
                        · rw [if_neg c30] at H
                          exact absurd H (by simp)
                      · rw [if_neg c28] at H
                        exact absurd H (by simp)
                    · rw [if_neg c27] at H
                      exact absurd H (by simp)
                  · rw [if_neg c25] at H
                    exact absurd H (by simp)
                · rw [if_neg c22] at H
                  exact absurd H (by simp)
              · rw [if_neg c21] at H
                exact absurd H (by simp)
            · rw [if_neg c20] at H
              exact absurd H (by simp)
          · rw [if_neg c19] at H
            exact absurd H (by simp)
        · rw [if_neg c18] at H
          exact absurd H (by simp)

/-- THE ONE PURE STATEMENT of partitalaw02_PitchForms: yours. -/
def partitalaw02_PitchForms.Pure : Prop := ∀ (a0 : ByteArray) (a1_0 : Int) (a1_1 : Int) (a1_2 : Int) (a2 : Int) (a3 : Int), a0.size ≤ 140737488351232 → (Lit.int .i64 a1_0).wf = true → (Lit.int .i64 a1_1).wf = true → (Lit.int .i64 a1_2).wf = true → (Lit.int .i64 a2).wf = true → (Lit.int .u8 a3).wf = true → ∃ k, partitalaw02_PitchForms.f k a0 a1_0 a1_1 a1_2 a2 a3 = some true
theorem partitalaw02_PitchForms.walk (P : partitalaw02_PitchForms.Pure) (a0 : ByteArray) (a1_0 : Int) (a1_1 : Int) (a1_2 : Int) (a2 : Int) (a3 : Int) (w : World) (hG_ : GW w) (w0 : a0.size ≤ 140737488351232) (w1_0 : (Lit.int .i64 a1_0).wf = true) (w1_1 : (Lit.int .i64 a1_1).wf = true) (w1_2 : (Lit.int .i64 a1_2).wf = true) (w2 : (Lit.int .i64 a2).wf = true) (w3 : (Lit.int .u8 a3).wf = true) :
    Calls Tryd.prog 5 #[.string a0, .agg #[.int .i64 a1_0, .int .i64 a1_1, .int .i64 a1_2], .int .i64 a2, .int .u8 a3] w fun e w' => e = .returned (.bool true) ∧ Below w.heap.size w w' := by
  obtain ⟨k, h⟩ := P a0 a1_0 a1_1 a1_2 a2 a3 w0 w1_0 w1_1 w1_2 w2 w3
  refine (partitalaw02_PitchForms.calls k a0 a1_0 a1_1 a1_2 a2 a3 true w rfl hG_ h).mono ?_
  rintro e w' ⟨rfl, hd⟩
  exact ⟨rfl, hd⟩

end Go.Proofs.YtnpinngdiipogaaDoor.M
