-- Written by wip/mprint.py, this session's own program, over the translation. Lean checks it.
import Derived.Test.YtajbnfidcpfonaaGreatDoorM0
import Derived.Test.YtajbnfidcpfonaaGreatDoorM5
import Derived.Test.YtajbnfidcpfonaaGreatDoorGLib
namespace Go.Proofs.YtajbnfidcpfonaaGreatDoor.M
open Go.RowKit Go.Proofs.YtajbnfidcpfonaaGreatDoorW.PrintWords Go.Proofs.YtajbnfidcpfonaaGreatDoorW.PrintLast Go.Proofs.YtajbnfidcpfonaaGreatDoorW.PrintMore
attribute [local go_sem] max2_int min2_int max_two min_two max_three min_three max_four min_four   -- for this text's walks alone
set_option linter.unusedVariables false
set_option linter.unusedSimpArgs false

/-! ### value_Read: function 5 -/
def value_Read.l0 : Nat → ByteArray → ByteArray → Int → Int → Int → Int → Int → Option (Int × Int × Int × Int × Int)
  | 0, _, _, _, _, _, _, _ => none
  | k + 1, x0, x7, x47, x125000, x125001, x125002, x125003 => if x47 < 7 then (if 0 ≤ x47 then ((strconv_Itoa.f (shl .i64 1 x47)).bind fun t129 => (if t129.toList = x7.toList then (value_Read.l0 k x0 x7 (wrap64 (x47 + 1)) x47 x125001 x125002 x125003) else (value_Read.l0 k x0 x7 (wrap64 (x47 + 1)) x125000 x125001 x125002 x125003))) else (none)) else ((value_Text.f k x125000 x125001 x125002 x125003).bind fun bt130 => (if bt130.2 = 0 then (if bt130.1.toList = x0.toList then (some (x125000, x125001, x125002, x125003, 0)) else (some (0, 0, 0, 0, 12))) else (some (0, 0, 0, 0, 12))))
def value_Read.f (k : Nat) (a0 : ByteArray) : Option (Int × Int × Int × Int × Int) := (strings_Cut.f a0 (⟨#[42]⟩ : ByteArray)).bind fun bt117 => ((strings_TrimRight.f bt117.1 (⟨#[46]⟩ : ByteArray)).bind fun t120 => ((strings_Cut.f bt117.2.1 (⟨#[58]⟩ : ByteArray)).bind fun bt121 => ((strconv_Atoi.f bt121.1).bind fun bt125 => ((strconv_Atoi.f bt121.2.1).bind fun bt127 => (value_Read.l0 k a0 t120 0 0 (wrap64 ((bt117.1.size : Int) - (t120.size : Int))) bt125.1 bt127.1)))))
theorem value_Read.mono_l : ∀ k, (∀ y0 y1 y2 y3 y4 y5 y6, LeO (value_Read.l0 k y0 y1 y2 y3 y4 y5 y6) (value_Read.l0 (k + 1) y0 y1 y2 y3 y4 y5 y6))
  | 0 => fun _ _ _ _ _ _ _ r h => by simp [value_Read.l0] at h
  | k + 1 => by
    have ih0 := value_Read.mono_l k
    · intro y0 y1 y2 y3 y4 y5 y6
      unfold value_Read.l0
      repeat' first
      | (with_reducible exact ih0 _ _ _ _ _ _ _)
      | (with_reducible exact value_Text.mono _ _ _ _ _)
      | (with_reducible exact LeO.refl _)
      | (with_reducible exact LeO.none _)
      | (with_reducible refine LeO.ite ?_ ?_)
      | (with_reducible refine LeO.bind ?_ (fun _ => ?_))
      | exact ih0 _ _ _ _ _ _ _
      | exact value_Text.mono _ _ _ _ _
      | exact LeO.none _
      | refine LeO.ite ?_ ?_
      | refine LeO.bind ?_ (fun _ => ?_)
theorem value_Read.mono : ∀ a0 k, LeO (value_Read.f k a0) (value_Read.f (k + 1) a0) := by
  intro a0 k
  have ih0 := value_Read.mono_l k
  unfold value_Read.f
  repeat' first
      | (with_reducible exact ih0 _ _ _ _ _ _ _)
      | (with_reducible exact value_Text.mono _ _ _ _ _)
      | (with_reducible exact LeO.refl _)
      | (with_reducible exact LeO.none _)
      | (with_reducible refine LeO.ite ?_ ?_)
      | (with_reducible refine LeO.bind ?_ (fun _ => ?_))
      | exact ih0 _ _ _ _ _ _ _
      | exact value_Text.mono _ _ _ _ _
      | exact LeO.none _
      | refine LeO.ite ?_ ?_
      | refine LeO.bind ?_ (fun _ => ?_)
set_option maxHeartbeats 8000000 in
set_option maxRecDepth 100000 in
theorem value_Read.calls (k : Nat) (a0 : ByteArray) (r1 : Int) (r2 : Int) (r3 : Int) (r4 : Int) (r5 : Int) (w : World) (hG_ : GW w) (h : value_Read.f k a0 = some (r1, r2, r3, r4, r5)) :
    Calls Tryz.prog 5 #[.string a0] w fun e w' => e = .returned (.tuple #[.agg #[.int .i64 r1, .int .i64 r2, .int .i64 r3, .int .i64 r4], .int .i64 r5]) ∧ Below w.heap.size w w' := by
  have hu23 := Tryz.underlying23
  have HB := Aside0.mk (Below.refl w.heap.size w)
  have HG_ := Aside0.mk hG_
  clear hG_
  have H : ((strings_Cut.f a0 (⟨#[42]⟩ : ByteArray)).bind fun bt117 => ((strings_TrimRight.f bt117.1 (⟨#[46]⟩ : ByteArray)).bind fun t120 => ((strings_Cut.f bt117.2.1 (⟨#[58]⟩ : ByteArray)).bind fun bt121 => ((strconv_Atoi.f bt121.1).bind fun bt125 => ((strconv_Atoi.f bt121.2.1).bind fun bt127 => (value_Read.l0 k a0 t120 0 0 (wrap64 ((bt117.1.size : Int) - (t120.size : Int))) bt125.1 bt127.1)))))) = some (r1, r2, r3, r4, r5) := h
  clear h
  replace H := Option.bind_eq_some_iff.mp H
  obtain ⟨⟨t117, t118, t119⟩, A20, H⟩ := H
  replace H : ((strings_TrimRight.f t117 (⟨#[46]⟩ : ByteArray)).bind fun t120 => ((strings_Cut.f t118 (⟨#[58]⟩ : ByteArray)).bind fun bt121 => ((strconv_Atoi.f bt121.1).bind fun bt125 => ((strconv_Atoi.f bt121.2.1).bind fun bt127 => (value_Read.l0 k a0 t120 0 0 (wrap64 ((t117.size : Int) - (t120.size : Int))) bt125.1 bt127.1))))) = some (r1, r2, r3, r4, r5) := H
  have A2 := Aside0.mk A20
  clear A20
  replace H := Option.bind_eq_some_iff.mp H
  obtain ⟨t120, A30, H⟩ := H
  replace H : ((strings_Cut.f t118 (⟨#[58]⟩ : ByteArray)).bind fun bt121 => ((strconv_Atoi.f bt121.1).bind fun bt125 => ((strconv_Atoi.f bt121.2.1).bind fun bt127 => (value_Read.l0 k a0 t120 0 0 (wrap64 ((t117.size : Int) - (t120.size : Int))) bt125.1 bt127.1)))) = some (r1, r2, r3, r4, r5) := H
  have A3 := Aside0.mk A30
  clear A30
  replace H := Option.bind_eq_some_iff.mp H
  obtain ⟨⟨t121, t122, t123⟩, A40, H⟩ := H
  replace H : ((strconv_Atoi.f t121).bind fun bt125 => ((strconv_Atoi.f t122).bind fun bt127 => (value_Read.l0 k a0 t120 0 0 (wrap64 ((t117.size : Int) - (t120.size : Int))) bt125.1 bt127.1))) = some (r1, r2, r3, r4, r5) := H
  have A4 := Aside0.mk A40
  clear A40
  replace H := Option.bind_eq_some_iff.mp H
  obtain ⟨⟨t125, t126⟩, A50, H⟩ := H
  replace H : ((strconv_Atoi.f t122).bind fun bt127 => (value_Read.l0 k a0 t120 0 0 (wrap64 ((t117.size : Int) - (t120.size : Int))) t125 bt127.1)) = some (r1, r2, r3, r4, r5) := H
  have A5 := Aside0.mk A50
  clear A50
  replace H := Option.bind_eq_some_iff.mp H
  obtain ⟨⟨t127, t128⟩, A60, H⟩ := H
  replace H : (value_Read.l0 k a0 t120 0 0 (wrap64 ((t117.size : Int) - (t120.size : Int))) t125 t127) = some (r1, r2, r3, r4, r5) := H
  have A6 := Aside0.mk A60
  clear A60
  have H' := Aside0.mk H
  clear H
  go_enter Tryz.func5, Tryz.ntmps5
  go_wp2_with (first | ((with_reducible refine gate_dst (N := 2) rfl ?_); refine box_event ?hg (N := 2) ?hd (cs := #[.int .i64 0, .int .i64 0, .int .i64 0, .int .i64 0]) (t := 23) ?hr ?_; (case hd => rfl); (case hg => rfl); (case hr => first | (go_simp; done) | (go_simp; rfl)); intro gb116 hg w7 hbox hb; have n0_ := Aside0.mk (below_step (by repeat (first | (with_reducible first | exact HB.out | apply below_alloc | apply pw_below_drewN | apply below_drew1) | exact HB.out)) hb); have n1_ := Aside0.mk (hbox); have n2_ := Aside0.mk ((by rw [hg]; exact (below_size (by repeat (first | (with_reducible first | exact HB.out | apply below_alloc | apply pw_below_drewN | apply below_drew1) | exact HB.out))) : w.heap.size ≤ gb116)); have n3_ := n2_; clear HB; have HB := n0_; have BK116 := n1_; have GW116 := n2_; have GE116 := n3_; clear n0_ n1_ n2_ n3_; clear hb hbox hg) | ((with_reducible refine gate_callee (f := 19) rfl ?_); refine goesL_ (some 17) rfl rfl Tryz.func19 (by kernel_rfl) rfl #[.string a0, .string (⟨#[42]⟩ : ByteArray)] rfl (by (try simp only [List.map_toArray, List.map_cons, List.map_nil]); first | done | rfl) ?_; (with_reducible refine (strings_Cut.calls a0 (⟨#[42]⟩ : ByteArray) t117 t118 t119 _ ?side1 A2.out).mono ?_); (case side1 => exact GW.step HG_.out (by repeat (first | (with_reducible first | exact HB.out | apply below_alloc | apply pw_below_drewN | apply below_drew1 | refine below_set ?_ GE116.out) | exact HB.out))); rintro e w8 ⟨rfl, hb⟩; refine ⟨_, rfl, ?_⟩; have n0_ := Aside0.mk (blk_below (g := gb116) (o := .cells #[.int .i64 0, .int .i64 0, .int .i64 0, .int .i64 0] 23 (0, 0)) (by (with_reducible repeat (first | refine blk_drewN ?_ _ | refine blk_drew ?_ | refine blk_alloc ?_ _)); exact BK116.out) hb); have n1_ := Aside0.mk (below_step (by repeat (first | (with_reducible first | exact HB.out | apply below_alloc | apply pw_below_drewN | apply below_drew1 | refine below_set ?_ GE116.out) | exact HB.out)) hb); clear BK116; clear HB; have BK116 := n0_; have HB := n1_; clear n0_ n1_; (try clear hb); (try clear hb2); (try clear hk); (try clear hi)) | ((with_reducible refine gate_callee (f := 20) rfl ?_); refine goesL_ (some 22) rfl rfl Tryz.func20 (by kernel_rfl) rfl #[.string t117, .string (⟨#[46]⟩ : ByteArray)] rfl (by (try simp only [List.map_toArray, List.map_cons, List.map_nil]); first | done | rfl) ?_; (with_reducible refine (strings_TrimRight.calls t117 (⟨#[46]⟩ : ByteArray) t120 _ A3.out).mono ?_); rintro e w9 ⟨rfl, hb⟩; refine ⟨_, rfl, ?_⟩; have n0_ := Aside0.mk (blk_below (g := gb116) (o := .cells #[.int .i64 0, .int .i64 0, .int .i64 0, .int .i64 0] 23 (0, 0)) (by (with_reducible repeat (first | refine blk_drewN ?_ _ | refine blk_drew ?_ | refine blk_alloc ?_ _)); exact BK116.out) hb); have n1_ := Aside0.mk (below_step (by repeat (first | (with_reducible first | exact HB.out | apply below_alloc | apply pw_below_drewN | apply below_drew1 | refine below_set ?_ GE116.out) | exact HB.out)) hb); clear BK116; clear HB; have BK116 := n0_; have HB := n1_; clear n0_ n1_; (try clear hb); (try clear hb2); (try clear hk); (try clear hi)) | ((with_reducible refine gate_callee (f := 19) rfl ?_); refine goesL_ (some 25) rfl rfl Tryz.func19 (by kernel_rfl) rfl #[.string t118, .string (⟨#[58]⟩ : ByteArray)] rfl (by (try simp only [List.map_toArray, List.map_cons, List.map_nil]); first | done | rfl) ?_; (with_reducible refine (strings_Cut.calls t118 (⟨#[58]⟩ : ByteArray) t121 t122 t123 _ ?side1 A4.out).mono ?_); (case side1 => exact GW.step HG_.out (by repeat (first | (with_reducible first | exact HB.out | apply below_alloc | apply pw_below_drewN | apply below_drew1 | refine below_set ?_ GE116.out) | exact HB.out))); rintro e w10 ⟨rfl, hb⟩; refine ⟨_, rfl, ?_⟩; have n0_ := Aside0.mk (blk_below (g := gb116) (o := .cells #[.int .i64 0, .int .i64 0, .int .i64 0, .int .i64 0] 23 (0, 0)) (by (with_reducible repeat (first | refine blk_drewN ?_ _ | refine blk_drew ?_ | refine blk_alloc ?_ _)); exact BK116.out) hb); have n1_ := Aside0.mk (below_step (by repeat (first | (with_reducible first | exact HB.out | apply below_alloc | apply pw_below_drewN | apply below_drew1 | refine below_set ?_ GE116.out) | exact HB.out)) hb); clear BK116; clear HB; have BK116 := n0_; have HB := n1_; clear n0_ n1_; (try clear hb); (try clear hb2); (try clear hk); (try clear hi)) | ((with_reducible refine gate_dst (N := 11) rfl ?_); refine box_event ?hg (N := 11) ?hd (cs := #[.int .i64 0, .int .i64 0, .int .i64 0, .int .i64 0]) (t := 23) ?hr ?_; (case hd => rfl); (case hg => rfl); (case hr => first | (go_simp; done) | (go_simp; rfl)); intro gb124 hg w11 hbox hb; have n0_ := Aside0.mk (blk_below (g := gb116) (o := .cells #[.int .i64 0, .int .i64 0, .int .i64 0, .int .i64 0] 23 (0, 0)) (by (with_reducible repeat (first | refine blk_drewN ?_ _ | refine blk_drew ?_ | refine blk_alloc ?_ _)); exact BK116.out) hb); have n1_ := Aside0.mk (below_step (by repeat (first | (with_reducible first | exact HB.out | apply below_alloc | apply pw_below_drewN | apply below_drew1 | refine below_set ?_ GE116.out) | exact HB.out)) hb); have n2_ := Aside0.mk (hbox); have n3_ := Aside0.mk ((by rw [hg]; exact (below_size (by repeat (first | (with_reducible first | exact HB.out | apply below_alloc | apply pw_below_drewN | apply below_drew1 | refine below_set ?_ GE116.out) | exact HB.out))) : w.heap.size ≤ gb124)); have n4_ := n3_; have n5_ := Aside0.mk ((by rw [hg]; exact Nat.ne_of_lt (blk_lt (g := gb116) (o := .cells #[.int .i64 0, .int .i64 0, .int .i64 0, .int .i64 0] 23 (0, 0)) (by (with_reducible repeat (first | refine blk_drewN ?_ _ | refine blk_drew ?_ | refine blk_alloc ?_ _)); exact BK116.out)) : gb116 ≠ gb124)); have n6_ := Aside0.mk n5_.out.symm; clear BK116; clear HB; have BK116 := n0_; have HB := n1_; have BK124 := n2_; have GW124 := n3_; have GE124 := n4_; have NB116_124 := n5_; have NB124_116 := n6_; clear n0_ n1_ n2_ n3_ n4_ n5_ n6_; clear hb hbox hg; have hnb12 := NB124_116.out; have hnc12 := NB116_124.out; have hcz13_0 : w11.cell? ⟨gb124, 0, none⟩ = some (.int .i64 0) := (blk_cell BK124.out 0).trans rfl; have hcz13_1 : w11.cell? ⟨gb124, 1, none⟩ = some (.int .i64 0) := (blk_cell BK124.out 1).trans rfl; have hcz13_2 : w11.cell? ⟨gb124, 2, none⟩ = some (.int .i64 0) := (blk_cell BK124.out 2).trans rfl; have hcz13_3 : w11.cell? ⟨gb124, 3, none⟩ = some (.int .i64 0) := (blk_cell BK124.out 3).trans rfl; have hfz13_0 := blk_frozen BK124.out 0; have hfz13_1 := blk_frozen BK124.out 1; have hfz13_2 := blk_frozen BK124.out 2; have hfz13_3 := blk_frozen BK124.out 3) | ((with_reducible refine gate_callee (f := 21) rfl ?_); refine goesL_ (some 37) rfl rfl Tryz.func21 (by kernel_rfl) rfl #[.string t121] rfl (by (try simp only [List.map_toArray, List.map_cons, List.map_nil]); first | done | rfl) ?_; (with_reducible refine (strconv_Atoi.calls t121 t125 t126 _ ?side1 A5.out).mono ?_); (case side1 => exact GW.step HG_.out (by repeat (first | (with_reducible first | exact HB.out | apply below_alloc | apply pw_below_drewN | apply below_drew1 | refine below_set ?_ GE116.out | refine below_set ?_ GE124.out) | exact HB.out))); rintro e w14 ⟨⟨v_, rfl⟩, hb⟩; refine ⟨_, rfl, ?_⟩; have n0_ := Aside0.mk (blk_below (g := gb116) (o := .cells #[.int .i64 0, .int .i64 0, .int .i64 0, .int .i64 0] 23 (0, 0)) (by (with_reducible repeat (first | refine blk_drewN ?_ _ | refine blk_drew ?_ | refine blk_alloc ?_ _)); refine blk_far ?_ NB116_124.out _; (with_reducible repeat (first | refine blk_drewN ?_ _ | refine blk_drew ?_ | refine blk_alloc ?_ _)); refine blk_far ?_ NB116_124.out _; (with_reducible repeat (first | refine blk_drewN ?_ _ | refine blk_drew ?_ | refine blk_alloc ?_ _)); refine blk_far ?_ NB116_124.out _; (with_reducible repeat (first | refine blk_drewN ?_ _ | refine blk_drew ?_ | refine blk_alloc ?_ _)); refine blk_far ?_ NB116_124.out _; (with_reducible repeat (first | refine blk_drewN ?_ _ | refine blk_drew ?_ | refine blk_alloc ?_ _)); exact BK116.out) hb); have n1_ := Aside0.mk (blk_below (g := gb124) (o := .cells #[.int .i64 0, .int .i64 (wrap64 ((t117.size : Int) - (t120.size : Int))), .int .i64 0, .int .i64 0] 23 (0, 0)) (by (with_reducible repeat (first | refine blk_drewN ?_ _ | refine blk_drew ?_ | refine blk_alloc ?_ _)); refine blk_put (cs := #[.int .i64 0, .int .i64 (wrap64 ((t117.size : Int) - (t120.size : Int))), .int .i64 0, .int .i64 0]) ?_ 3 _ rfl; (with_reducible repeat (first | refine blk_drewN ?_ _ | refine blk_drew ?_ | refine blk_alloc ?_ _)); refine blk_put (cs := #[.int .i64 0, .int .i64 (wrap64 ((t117.size : Int) - (t120.size : Int))), .int .i64 0, .int .i64 0]) ?_ 2 _ rfl; (with_reducible repeat (first | refine blk_drewN ?_ _ | refine blk_drew ?_ | refine blk_alloc ?_ _)); refine blk_put (cs := #[.int .i64 0, .int .i64 0, .int .i64 0, .int .i64 0]) ?_ 1 _ rfl; (with_reducible repeat (first | refine blk_drewN ?_ _ | refine blk_drew ?_ | refine blk_alloc ?_ _)); refine blk_put (cs := #[.int .i64 0, .int .i64 0, .int .i64 0, .int .i64 0]) ?_ 0 _ rfl; (with_reducible repeat (first | refine blk_drewN ?_ _ | refine blk_drew ?_ | refine blk_alloc ?_ _)); exact BK124.out) hb); have n2_ := Aside0.mk (below_step (by repeat (first | (with_reducible first | exact HB.out | apply below_alloc | apply pw_below_drewN | apply below_drew1 | refine below_set ?_ GE116.out | refine below_set ?_ GE124.out) | exact HB.out)) hb); clear BK116; clear BK124; clear HB; have BK116 := n0_; have BK124 := n1_; have HB := n2_; clear n0_ n1_ n2_; (try clear hb); (try clear hb2); (try clear hk); (try clear hi); (try simp only [errW_none, errW_some]); have hcz15_0 : w14.cell? ⟨gb124, 0, none⟩ = some (.int .i64 0) := (blk_cell BK124.out 0).trans rfl; have hcz15_1 : w14.cell? ⟨gb124, 1, none⟩ = some (.int .i64 (wrap64 ((t117.size : Int) - (t120.size : Int)))) := (blk_cell BK124.out 1).trans rfl; have hcz15_2 : w14.cell? ⟨gb124, 2, none⟩ = some (.int .i64 0) := (blk_cell BK124.out 2).trans rfl; have hcz15_3 : w14.cell? ⟨gb124, 3, none⟩ = some (.int .i64 0) := (blk_cell BK124.out 3).trans rfl; have hfz15_0 := blk_frozen BK124.out 0; have hfz15_1 := blk_frozen BK124.out 1; have hfz15_2 := blk_frozen BK124.out 2; have hfz15_3 := blk_frozen BK124.out 3) | ((with_reducible refine gate_callee (f := 21) rfl ?_); refine goesL_ (some 43) rfl rfl Tryz.func21 (by kernel_rfl) rfl #[.string t122] rfl (by (try simp only [List.map_toArray, List.map_cons, List.map_nil]); first | done | rfl) ?_; (with_reducible refine (strconv_Atoi.calls t122 t127 t128 _ ?side1 A6.out).mono ?_); (case side1 => exact GW.step HG_.out (by repeat (first | (with_reducible first | exact HB.out | apply below_alloc | apply pw_below_drewN | apply below_drew1 | refine below_set ?_ GE116.out | refine below_set ?_ GE124.out) | exact HB.out))); rintro e w16 ⟨⟨v_, rfl⟩, hb⟩; refine ⟨_, rfl, ?_⟩; have n0_ := Aside0.mk (blk_below (g := gb116) (o := .cells #[.int .i64 0, .int .i64 0, .int .i64 0, .int .i64 0] 23 (0, 0)) (by (with_reducible repeat (first | refine blk_drewN ?_ _ | refine blk_drew ?_ | refine blk_alloc ?_ _)); refine blk_far ?_ NB116_124.out _; (with_reducible repeat (first | refine blk_drewN ?_ _ | refine blk_drew ?_ | refine blk_alloc ?_ _)); exact BK116.out) hb); have n1_ := Aside0.mk (blk_below (g := gb124) (o := .cells #[.int .i64 0, .int .i64 (wrap64 ((t117.size : Int) - (t120.size : Int))), .int .i64 t125, .int .i64 0] 23 (0, 0)) (by (with_reducible repeat (first | refine blk_drewN ?_ _ | refine blk_drew ?_ | refine blk_alloc ?_ _)); refine blk_put (cs := #[.int .i64 0, .int .i64 (wrap64 ((t117.size : Int) - (t120.size : Int))), .int .i64 0, .int .i64 0]) ?_ 2 _ rfl; (with_reducible repeat (first | refine blk_drewN ?_ _ | refine blk_drew ?_ | refine blk_alloc ?_ _)); exact BK124.out) hb); have n2_ := Aside0.mk (below_step (by repeat (first | (with_reducible first | exact HB.out | apply below_alloc | apply pw_below_drewN | apply below_drew1 | refine below_set ?_ GE116.out | refine below_set ?_ GE124.out) | exact HB.out)) hb); clear BK116; clear BK124; clear HB; have BK116 := n0_; have BK124 := n1_; have HB := n2_; clear n0_ n1_ n2_; (try clear hb); (try clear hb2); (try clear hk); (try clear hi); (try simp only [errW_none, errW_some]); have hcz17_0 : w16.cell? ⟨gb124, 0, none⟩ = some (.int .i64 0) := (blk_cell BK124.out 0).trans rfl; have hcz17_1 : w16.cell? ⟨gb124, 1, none⟩ = some (.int .i64 (wrap64 ((t117.size : Int) - (t120.size : Int)))) := (blk_cell BK124.out 1).trans rfl; have hcz17_2 : w16.cell? ⟨gb124, 2, none⟩ = some (.int .i64 t125) := (blk_cell BK124.out 2).trans rfl; have hcz17_3 : w16.cell? ⟨gb124, 3, none⟩ = some (.int .i64 0) := (blk_cell BK124.out 3).trans rfl; have hfz17_0 := blk_frozen BK124.out 0; have hfz17_1 := blk_frozen BK124.out 1; have hfz17_2 := blk_frozen BK124.out 2; have hfz17_3 := blk_frozen BK124.out 3))
  go_loopg [47] k (fun kq v47 w' => ∃ (x47_1 : Int) (x125000_1 : Int), v47 = .int .i64 x47_1 ∧ Aside0 (value_Read.l0 kq a0 t120 x47_1 x125000_1 (wrap64 ((t117.size : Int) - (t120.size : Int))) t125 t127 = some (r1, r2, r3, r4, r5)) ∧ Aside0 (kq ≤ k) ∧ Aside0 (w'.heap[gb116]? = some (.cells #[.int .i64 0, .int .i64 0, .int .i64 0, .int .i64 0] 23 (0, 0))) ∧ Aside0 (w'.heap[gb124]? = some (.cells #[.int .i64 x125000_1, .int .i64 (wrap64 ((t117.size : Int) - (t120.size : Int))), .int .i64 t125, .int .i64 t127] 23 (0, 0))) ∧ Aside0 (Below w.heap.size w w'))
  case atStart => exact ⟨(0), (0), (by first | rfl | (simp; done) | (simp [*]; done)), H', ⟨Nat.le_refl _⟩, ⟨by (with_reducible repeat (first | refine blk_drewN ?_ _ | refine blk_drew ?_ | refine blk_alloc ?_ _)); refine blk_far ?_ NB116_124.out _; (with_reducible repeat (first | refine blk_drewN ?_ _ | refine blk_drew ?_ | refine blk_alloc ?_ _)); exact BK116.out⟩, ⟨by (with_reducible repeat (first | refine blk_drewN ?_ _ | refine blk_drew ?_ | refine blk_alloc ?_ _)); refine blk_put (cs := #[.int .i64 0, .int .i64 (wrap64 ((t117.size : Int) - (t120.size : Int))), .int .i64 t125, .int .i64 0]) ?_ 3 _ rfl; (with_reducible repeat (first | refine blk_drewN ?_ _ | refine blk_drew ?_ | refine blk_alloc ?_ _)); exact BK124.out⟩, ⟨by repeat (first | (with_reducible first | exact HB.out | apply below_alloc | apply pw_below_drewN | apply below_drew1 | refine below_set ?_ GE116.out | refine below_set ?_ GE124.out) | exact HB.out)⟩⟩
  case round =>
    clear H'
    try clear c1
    try clear c2
    try clear p2
    try clear c5
    try clear p6
    try clear c12
    try clear hcz13_0
    try clear hcz13_1
    try clear hcz13_2
    try clear hcz13_3
    try clear hcz15_0
    try clear hcz15_1
    try clear hcz15_2
    try clear hcz15_3
    try clear hcz17_0
    try clear hcz17_1
    try clear hcz17_2
    try clear hcz17_3
    try clear hfz13_0
    try clear hfz13_1
    try clear hfz13_2
    try clear hfz13_3
    try clear hfz15_0
    try clear hfz15_1
    try clear hfz15_2
    try clear hfz15_3
    try clear hfz17_0
    try clear hfz17_1
    try clear hfz17_2
    try clear hfz17_3
    obtain ⟨x47_1, x125000_1, rfl, HA, HK1, BK116, BK124, HB⟩ := hrel
    cases gk with
    | zero => exact absurd HA.out (by simp [value_Read.l0])
    | succ k1 =>
      have H := HA.out
      clear HA
      simp only [value_Read.l0] at H
      by_cases c18 : x47_1 < 7
      · rw [if_pos c18] at H
        have c18b0 : decide (x47_1 < 7) = true := decide_eq_true c18
        clear c18
        by_cases c19 : 0 ≤ x47_1
        · rw [if_pos c19] at H
          have c19b0 := eq_true c19
          have c19b1 : decide (0 ≤ x47_1) = true := decide_eq_true c19
          clear c19
          obtain ⟨ji20, hji20⟩ : ∃ j_ : Int, (shl .i64 1 x47_1) = j_ := ⟨_, rfl⟩
          replace H : ((strconv_Itoa.f (ji20)).bind fun t129 => (if t129.toList = t120.toList then (value_Read.l0 k1 a0 t120 (wrap64 (x47_1 + 1)) x47_1 (wrap64 ((t117.size : Int) - (t120.size : Int))) t125 t127) else (value_Read.l0 k1 a0 t120 (wrap64 (x47_1 + 1)) x125000_1 (wrap64 ((t117.size : Int) - (t120.size : Int))) t125 t127))) = some (r1, r2, r3, r4, r5) := by first | (rw [hji20] at H; exact H) | (simp only [hji20] at H ⊢; exact H)
          have hji20_ : (IntKind.i64.wrap (1 * 2 ^ min x47_1.toNat 64)) = ji20 := hji20
          have hji20z : x47_1 ≤ 64 → (IntKind.i64.wrap (1 * 2 ^ x47_1.toNat)) = ji20 := shl_small hji20
          have hji20u : (IntKind.i64.wrap (2 ^ min x47_1.toNat 64)) = ji20 := by have h_ := hji20_; rw [Int.one_mul] at h_; exact h_
          have hji20v : x47_1 ≤ 64 → (IntKind.i64.wrap (2 ^ x47_1.toNat)) = ji20 := fun hle_ => by have h_ := hji20z hle_; rw [Int.one_mul] at h_; exact h_
          have hji20y : (wrap64 (1 * 2 ^ min x47_1.toNat 64)) = ji20 := (i64_w _).symm.trans hji20_
          have hji20x : x47_1 ≤ 64 → (wrap64 (1 * 2 ^ x47_1.toNat)) = ji20 := fun h_ => (i64_w _).symm.trans (hji20z h_)
          replace H := Option.bind_eq_some_iff.mp H
          obtain ⟨t129, A210, H⟩ := H
          replace H : (if t129.toList = t120.toList then (value_Read.l0 k1 a0 t120 (wrap64 (x47_1 + 1)) x47_1 (wrap64 ((t117.size : Int) - (t120.size : Int))) t125 t127) else (value_Read.l0 k1 a0 t120 (wrap64 (x47_1 + 1)) x125000_1 (wrap64 ((t117.size : Int) - (t120.size : Int))) t125 t127)) = some (r1, r2, r3, r4, r5) := H
          have A21 := Aside0.mk A210
          clear A210
          by_cases c22 : t129.toList = t120.toList
          · rw [if_pos c22] at H
            have c22b0 : (t129.toList == t120.toList) = true := beq_iff_eq.mpr c22
            have c22b1 : (t129.toList != t120.toList) = false := bne_eq_false_iff_eq.mpr c22
            clear c22
            have H' := Aside0.mk H
            clear H
            go_wp2_with (first | ((with_reducible refine gate_callee (f := 22) rfl ?_); refine goesL_ (some 52) rfl rfl Tryz.func22 (by kernel_rfl) rfl #[.int .i64 ji20] rfl (by (try simp only [List.map_toArray, List.map_cons, List.map_nil]); first | done | (simp only [hji20]; rfl) | rfl | (simp only [List.length_drop, List.length_take]; rfl)) ?_; (with_reducible refine (strconv_Itoa.calls ji20 t129 _ ?side1 A21.out).mono ?_); (case side1 => exact GW.step HG_.out (by repeat (first | (with_reducible first | exact HB.out | apply below_alloc | apply pw_below_drewN | apply below_drew1 | refine below_set ?_ GE116.out | refine below_set ?_ GE124.out) | exact HB.out))); rintro e w23 ⟨rfl, hb⟩; refine ⟨_, rfl, ?_⟩; have n0_ := Aside0.mk (blk_below (g := gb116) (o := .cells #[.int .i64 0, .int .i64 0, .int .i64 0, .int .i64 0] 23 (0, 0)) (by (with_reducible repeat (first | refine blk_drewN ?_ _ | refine blk_drew ?_ | refine blk_alloc ?_ _)); exact BK116.out) hb); have n1_ := Aside0.mk (blk_below (g := gb124) (o := .cells #[.int .i64 x125000_1, .int .i64 (wrap64 ((t117.size : Int) - (t120.size : Int))), .int .i64 t125, .int .i64 t127] 23 (0, 0)) (by (with_reducible repeat (first | refine blk_drewN ?_ _ | refine blk_drew ?_ | refine blk_alloc ?_ _)); exact BK124.out) hb); have n2_ := Aside0.mk (below_step (by repeat (first | (with_reducible first | exact HB.out | apply below_alloc | apply pw_below_drewN | apply below_drew1 | refine below_set ?_ GE116.out | refine below_set ?_ GE124.out) | exact HB.out)) hb); clear BK116; clear BK124; clear HB; have BK116 := n0_; have BK124 := n1_; have HB := n2_; clear n0_ n1_ n2_; (try clear hb); (try clear hb2); (try clear hk); (try clear hi); have hnb24 := NB124_116.out; have hnc24 := NB116_124.out; have hcz25_0 : w23.cell? ⟨gb124, 0, none⟩ = some (.int .i64 x125000_1) := (blk_cell BK124.out 0).trans rfl; have hcz25_1 : w23.cell? ⟨gb124, 1, none⟩ = some (.int .i64 (wrap64 ((t117.size : Int) - (t120.size : Int)))) := (blk_cell BK124.out 1).trans rfl; have hcz25_2 : w23.cell? ⟨gb124, 2, none⟩ = some (.int .i64 t125) := (blk_cell BK124.out 2).trans rfl; have hcz25_3 : w23.cell? ⟨gb124, 3, none⟩ = some (.int .i64 t127) := (blk_cell BK124.out 3).trans rfl; have hfz25_0 := blk_frozen BK124.out 0; have hfz25_1 := blk_frozen BK124.out 1; have hfz25_2 := blk_frozen BK124.out 2; have hfz25_3 := blk_frozen BK124.out 3))
            go_roundg k1
            case measure => have := HK1.out; omega
            case rel => exact ⟨(wrap64 (x47_1 + 1)), (x47_1), (by first | rfl | (simp; done) | (simp [*]; done)), H', ⟨by have := HK1.out; omega⟩, ⟨by (with_reducible repeat (first | refine blk_drewN ?_ _ | refine blk_drew ?_ | refine blk_alloc ?_ _)); refine blk_far ?_ NB116_124.out _; (with_reducible repeat (first | refine blk_drewN ?_ _ | refine blk_drew ?_ | refine blk_alloc ?_ _)); exact BK116.out⟩, ⟨by (with_reducible repeat (first | refine blk_drewN ?_ _ | refine blk_drew ?_ | refine blk_alloc ?_ _)); refine blk_put (cs := #[.int .i64 x125000_1, .int .i64 (wrap64 ((t117.size : Int) - (t120.size : Int))), .int .i64 t125, .int .i64 t127]) ?_ 0 _ rfl; (with_reducible repeat (first | refine blk_drewN ?_ _ | refine blk_drew ?_ | refine blk_alloc ?_ _)); exact BK124.out⟩, ⟨by repeat (first | (with_reducible first | exact HB.out | apply below_alloc | apply pw_below_drewN | apply below_drew1 | refine below_set ?_ GE116.out | refine below_set ?_ GE124.out) | exact HB.out)⟩⟩
          · rw [if_neg c22] at H
            have c22b0 : (t129.toList == t120.toList) = false := beq_eq_false_iff_ne.mpr c22
            have c22b1 : (t129.toList != t120.toList) = true := bne_iff_ne.mpr c22
            have H' := Aside0.mk H
            clear H
            go_wp2_with (first | ((with_reducible refine gate_callee (f := 22) rfl ?_); refine goesL_ (some 52) rfl rfl Tryz.func22 (by kernel_rfl) rfl #[.int .i64 ji20] rfl (by (try simp only [List.map_toArray, List.map_cons, List.map_nil]); first | done | (simp only [hji20]; rfl) | rfl | (simp only [List.length_drop, List.length_take]; rfl)) ?_; (with_reducible refine (strconv_Itoa.calls ji20 t129 _ ?side1 A21.out).mono ?_); (case side1 => exact GW.step HG_.out (by repeat (first | (with_reducible first | exact HB.out | apply below_alloc | apply pw_below_drewN | apply below_drew1 | refine below_set ?_ GE116.out | refine below_set ?_ GE124.out) | exact HB.out))); rintro e w26 ⟨rfl, hb⟩; refine ⟨_, rfl, ?_⟩; have n0_ := Aside0.mk (blk_below (g := gb116) (o := .cells #[.int .i64 0, .int .i64 0, .int .i64 0, .int .i64 0] 23 (0, 0)) (by (with_reducible repeat (first | refine blk_drewN ?_ _ | refine blk_drew ?_ | refine blk_alloc ?_ _)); exact BK116.out) hb); have n1_ := Aside0.mk (blk_below (g := gb124) (o := .cells #[.int .i64 x125000_1, .int .i64 (wrap64 ((t117.size : Int) - (t120.size : Int))), .int .i64 t125, .int .i64 t127] 23 (0, 0)) (by (with_reducible repeat (first | refine blk_drewN ?_ _ | refine blk_drew ?_ | refine blk_alloc ?_ _)); exact BK124.out) hb); have n2_ := Aside0.mk (below_step (by repeat (first | (with_reducible first | exact HB.out | apply below_alloc | apply pw_below_drewN | apply below_drew1 | refine below_set ?_ GE116.out | refine below_set ?_ GE124.out) | exact HB.out)) hb); clear BK116; clear BK124; clear HB; have BK116 := n0_; have BK124 := n1_; have HB := n2_; clear n0_ n1_ n2_; (try clear hb); (try clear hb2); (try clear hk); (try clear hi)))
            go_roundg k1
            case measure => have := HK1.out; omega
            case rel => exact ⟨(wrap64 (x47_1 + 1)), (x125000_1), (by first | rfl | (simp; done) | (simp [*]; done)), H', ⟨by have := HK1.out; omega⟩, ⟨by (with_reducible repeat (first | refine blk_drewN ?_ _ | refine blk_drew ?_ | refine blk_alloc ?_ _)); exact BK116.out⟩, ⟨by (with_reducible repeat (first | refine blk_drewN ?_ _ | refine blk_drew ?_ | refine blk_alloc ?_ _)); exact BK124.out⟩, ⟨by repeat (first | (with_reducible first | exact HB.out | apply below_alloc | apply pw_below_drewN | apply below_drew1 | refine below_set ?_ GE116.out | refine below_set ?_ GE124.out) | exact HB.out)⟩⟩
        · rw [if_neg c19] at H
          exact absurd H (by simp)
      · rw [if_neg c18] at H
        have c18b0 : decide (x47_1 < 7) = false := decide_eq_false c18
        clear c18
        replace H := Option.bind_eq_some_iff.mp H
        obtain ⟨⟨t130, t131⟩, A270, H⟩ := H
        replace H : (if t131 = 0 then (if t130.toList = a0.toList then (some (x125000_1, (wrap64 ((t117.size : Int) - (t120.size : Int))), t125, t127, 0)) else (some (0, 0, 0, 0, 12))) else (some (0, 0, 0, 0, 12))) = some (r1, r2, r3, r4, r5) := H
        have A27 := Aside0.mk A270
        clear A270
        by_cases c28 : t131 = 0
        · rw [if_pos c28] at H
          have c28b0 : (t131 == 0) = true := beq_iff_eq.mpr c28
          have c28b1 : (t131 != 0) = false := bne_eq_false_iff_eq.mpr c28
          clear c28
          by_cases c29 : t130.toList = a0.toList
          · rw [if_pos c29] at H
            have c29b0 : (t130.toList == a0.toList) = true := beq_iff_eq.mpr c29
            have c29b1 : (t130.toList != a0.toList) = false := bne_eq_false_iff_eq.mpr c29
            clear c29
            simp only [Option.some.injEq, Prod.mk.injEq] at H
            obtain ⟨rfl, rfl, rfl, rfl, rfl⟩ := H
            have hnb30 := NB124_116.out
            have hnc30 := NB116_124.out
            have hcz31_0 : wr.cell? ⟨gb124, 0, none⟩ = some (.int .i64 x125000_1) := (blk_cell BK124.out 0).trans rfl
            have hcz31_1 : wr.cell? ⟨gb124, 1, none⟩ = some (.int .i64 (wrap64 ((t117.size : Int) - (t120.size : Int)))) := (blk_cell BK124.out 1).trans rfl
            have hcz31_2 : wr.cell? ⟨gb124, 2, none⟩ = some (.int .i64 t125) := (blk_cell BK124.out 2).trans rfl
            have hcz31_3 : wr.cell? ⟨gb124, 3, none⟩ = some (.int .i64 t127) := (blk_cell BK124.out 3).trans rfl
            have hfz31_0 := blk_frozen BK124.out 0
            have hfz31_1 := blk_frozen BK124.out 1
            have hfz31_2 := blk_frozen BK124.out 2
            have hfz31_3 := blk_frozen BK124.out 3
            go_wp2_with (first | ((with_reducible refine gate_callee (f := 10) rfl ?_); refine goesL_ (some 60) rfl rfl Tryz.func10 (by kernel_rfl) rfl #[.agg #[.int .i64 x125000_1, .int .i64 (wrap64 ((t117.size : Int) - (t120.size : Int))), .int .i64 t125, .int .i64 t127]] rfl (by (try simp only [List.map_toArray, List.map_cons, List.map_nil]); first | done | rfl) ?_; (with_reducible refine (value_Text.calls k1 x125000_1 (wrap64 ((t117.size : Int) - (t120.size : Int))) t125 t127 t130 t131 _ ?side1 A27.out).mono ?_); (case side1 => exact GW.step HG_.out (by repeat (first | (with_reducible first | exact HB.out | apply below_alloc | apply pw_below_drewN | apply below_drew1 | refine below_set ?_ GE116.out | refine below_set ?_ GE124.out) | exact HB.out))); rintro e w32 ⟨rfl, hb⟩; refine ⟨_, rfl, ?_⟩; have n0_ := Aside0.mk (blk_below (g := gb116) (o := .cells #[.int .i64 0, .int .i64 0, .int .i64 0, .int .i64 0] 23 (0, 0)) (by (with_reducible repeat (first | refine blk_drewN ?_ _ | refine blk_drew ?_ | refine blk_alloc ?_ _)); exact BK116.out) hb); have n1_ := Aside0.mk (blk_below (g := gb124) (o := .cells #[.int .i64 x125000_1, .int .i64 (wrap64 ((t117.size : Int) - (t120.size : Int))), .int .i64 t125, .int .i64 t127] 23 (0, 0)) (by (with_reducible repeat (first | refine blk_drewN ?_ _ | refine blk_drew ?_ | refine blk_alloc ?_ _)); exact BK124.out) hb); have n2_ := Aside0.mk (below_step (by repeat (first | (with_reducible first | exact HB.out | apply below_alloc | apply pw_below_drewN | apply below_drew1 | refine below_set ?_ GE116.out | refine below_set ?_ GE124.out) | exact HB.out)) hb); clear BK116; clear BK124; clear HB; have BK116 := n0_; have BK124 := n1_; have HB := n2_; clear n0_ n1_ n2_; (try clear hb); (try clear hb2); (try clear hk); (try clear hi); have hcz33_0 : w32.cell? ⟨gb124, 0, none⟩ = some (.int .i64 x125000_1) := (blk_cell BK124.out 0).trans rfl; have hcz33_1 : w32.cell? ⟨gb124, 1, none⟩ = some (.int .i64 (wrap64 ((t117.size : Int) - (t120.size : Int)))) := (blk_cell BK124.out 1).trans rfl; have hcz33_2 : w32.cell? ⟨gb124, 2, none⟩ = some (.int .i64 t125) := (blk_cell BK124.out 2).trans rfl; have hcz33_3 : w32.cell? ⟨gb124, 3, none⟩ = some (.int .i64 t127) := (blk_cell BK124.out 3).trans rfl; have hfz33_0 := blk_frozen BK124.out 0; have hfz33_1 := blk_frozen BK124.out 1; have hfz33_2 := blk_frozen BK124.out 2; have hfz33_3 := blk_frozen BK124.out 3; have hcz34_0 : w32.cell? ⟨gb116, 0, none⟩ = some (.int .i64 0) := (blk_cell BK116.out 0).trans rfl; have hcz34_1 : w32.cell? ⟨gb116, 1, none⟩ = some (.int .i64 0) := (blk_cell BK116.out 1).trans rfl; have hcz34_2 : w32.cell? ⟨gb116, 2, none⟩ = some (.int .i64 0) := (blk_cell BK116.out 2).trans rfl; have hcz34_3 : w32.cell? ⟨gb116, 3, none⟩ = some (.int .i64 0) := (blk_cell BK116.out 3).trans rfl; have hfz34_0 := blk_frozen BK116.out 0; have hfz34_1 := blk_frozen BK116.out 1; have hfz34_2 := blk_frozen BK116.out 2; have hfz34_3 := blk_frozen BK116.out 3))
            refine bodyPost_ret (results_ct rfl _ _ gb116 23 #[.int .i64 x125000_1, .int .i64 (wrap64 ((t117.size : Int) - (t120.size : Int))), .int .i64 t125, .int .i64 t127] (0, 0) _ rfl (by (with_reducible repeat (first | refine blk_drewN ?_ _ | refine blk_drew ?_ | refine blk_alloc ?_ _)); refine blk_put (cs := #[.int .i64 x125000_1, .int .i64 (wrap64 ((t117.size : Int) - (t120.size : Int))), .int .i64 t125, .int .i64 0]) ?_ 3 _ rfl; (with_reducible repeat (first | refine blk_drewN ?_ _ | refine blk_drew ?_ | refine blk_alloc ?_ _)); refine blk_put (cs := #[.int .i64 x125000_1, .int .i64 (wrap64 ((t117.size : Int) - (t120.size : Int))), .int .i64 0, .int .i64 0]) ?_ 2 _ rfl; (with_reducible repeat (first | refine blk_drewN ?_ _ | refine blk_drew ?_ | refine blk_alloc ?_ _)); refine blk_put (cs := #[.int .i64 x125000_1, .int .i64 0, .int .i64 0, .int .i64 0]) ?_ 1 _ rfl; (with_reducible repeat (first | refine blk_drewN ?_ _ | refine blk_drew ?_ | refine blk_alloc ?_ _)); refine blk_put (cs := #[.int .i64 0, .int .i64 0, .int .i64 0, .int .i64 0]) ?_ 0 _ rfl; (with_reducible repeat (first | refine blk_drewN ?_ _ | refine blk_drew ?_ | refine blk_alloc ?_ _)); exact BK116.out) Tryz.underlying23 rfl (by kernel_rfl)) rfl ?_
            exact ⟨by first | rfl | (simp [errW_none, errW_some] <;> rfl) | (simp [*, errW_none, errW_some] <;> rfl), by repeat (first | (with_reducible first | exact HB.out | apply below_alloc | apply pw_below_drewN | apply below_drew1 | refine below_set ?_ GE116.out | refine below_set ?_ GE124.out) | exact HB.out)⟩
          · rw [if_neg c29] at H
            have c29b0 : (t130.toList == a0.toList) = false := beq_eq_false_iff_ne.mpr c29
            have c29b1 : (t130.toList != a0.toList) = true := bne_iff_ne.mpr c29
            simp only [Option.some.injEq, Prod.mk.injEq] at H
            obtain ⟨rfl, rfl, rfl, rfl, rfl⟩ := H
            have hnb35 := NB124_116.out
            have hnc35 := NB116_124.out
            have hcz36_0 : wr.cell? ⟨gb124, 0, none⟩ = some (.int .i64 x125000_1) := (blk_cell BK124.out 0).trans rfl
            have hcz36_1 : wr.cell? ⟨gb124, 1, none⟩ = some (.int .i64 (wrap64 ((t117.size : Int) - (t120.size : Int)))) := (blk_cell BK124.out 1).trans rfl
            have hcz36_2 : wr.cell? ⟨gb124, 2, none⟩ = some (.int .i64 t125) := (blk_cell BK124.out 2).trans rfl
            have hcz36_3 : wr.cell? ⟨gb124, 3, none⟩ = some (.int .i64 t127) := (blk_cell BK124.out 3).trans rfl
            have hfz36_0 := blk_frozen BK124.out 0
            have hfz36_1 := blk_frozen BK124.out 1
            have hfz36_2 := blk_frozen BK124.out 2
            have hfz36_3 := blk_frozen BK124.out 3
            go_wp2_with (first | ((with_reducible refine gate_callee (f := 10) rfl ?_); refine goesL_ (some 60) rfl rfl Tryz.func10 (by kernel_rfl) rfl #[.agg #[.int .i64 x125000_1, .int .i64 (wrap64 ((t117.size : Int) - (t120.size : Int))), .int .i64 t125, .int .i64 t127]] rfl (by (try simp only [List.map_toArray, List.map_cons, List.map_nil]); first | done | rfl) ?_; (with_reducible refine (value_Text.calls k1 x125000_1 (wrap64 ((t117.size : Int) - (t120.size : Int))) t125 t127 t130 t131 _ ?side1 A27.out).mono ?_); (case side1 => exact GW.step HG_.out (by repeat (first | (with_reducible first | exact HB.out | apply below_alloc | apply pw_below_drewN | apply below_drew1 | refine below_set ?_ GE116.out | refine below_set ?_ GE124.out) | exact HB.out))); rintro e w37 ⟨rfl, hb⟩; refine ⟨_, rfl, ?_⟩; have n0_ := Aside0.mk (blk_below (g := gb116) (o := .cells #[.int .i64 0, .int .i64 0, .int .i64 0, .int .i64 0] 23 (0, 0)) (by (with_reducible repeat (first | refine blk_drewN ?_ _ | refine blk_drew ?_ | refine blk_alloc ?_ _)); exact BK116.out) hb); have n1_ := Aside0.mk (blk_below (g := gb124) (o := .cells #[.int .i64 x125000_1, .int .i64 (wrap64 ((t117.size : Int) - (t120.size : Int))), .int .i64 t125, .int .i64 t127] 23 (0, 0)) (by (with_reducible repeat (first | refine blk_drewN ?_ _ | refine blk_drew ?_ | refine blk_alloc ?_ _)); exact BK124.out) hb); have n2_ := Aside0.mk (below_step (by repeat (first | (with_reducible first | exact HB.out | apply below_alloc | apply pw_below_drewN | apply below_drew1 | refine below_set ?_ GE116.out | refine below_set ?_ GE124.out) | exact HB.out)) hb); clear BK116; clear BK124; clear HB; have BK116 := n0_; have BK124 := n1_; have HB := n2_; clear n0_ n1_ n2_; (try clear hb); (try clear hb2); (try clear hk); (try clear hi); have hcz38_0 : w37.cell? ⟨gb116, 0, none⟩ = some (.int .i64 0) := (blk_cell BK116.out 0).trans rfl; have hcz38_1 : w37.cell? ⟨gb116, 1, none⟩ = some (.int .i64 0) := (blk_cell BK116.out 1).trans rfl; have hcz38_2 : w37.cell? ⟨gb116, 2, none⟩ = some (.int .i64 0) := (blk_cell BK116.out 2).trans rfl; have hcz38_3 : w37.cell? ⟨gb116, 3, none⟩ = some (.int .i64 0) := (blk_cell BK116.out 3).trans rfl; have hfz38_0 := blk_frozen BK116.out 0; have hfz38_1 := blk_frozen BK116.out 1; have hfz38_2 := blk_frozen BK116.out 2; have hfz38_3 := blk_frozen BK116.out 3))
            refine bodyPost_ret (results_ct rfl _ _ gb116 23 #[.int .i64 0, .int .i64 0, .int .i64 0, .int .i64 0] (0, 0) _ rfl (by (with_reducible repeat (first | refine blk_drewN ?_ _ | refine blk_drew ?_ | refine blk_alloc ?_ _)); refine blk_put (cs := #[.int .i64 0, .int .i64 0, .int .i64 0, .int .i64 0]) ?_ 3 _ rfl; (with_reducible repeat (first | refine blk_drewN ?_ _ | refine blk_drew ?_ | refine blk_alloc ?_ _)); refine blk_put (cs := #[.int .i64 0, .int .i64 0, .int .i64 0, .int .i64 0]) ?_ 2 _ rfl; (with_reducible repeat (first | refine blk_drewN ?_ _ | refine blk_drew ?_ | refine blk_alloc ?_ _)); refine blk_put (cs := #[.int .i64 0, .int .i64 0, .int .i64 0, .int .i64 0]) ?_ 1 _ rfl; (with_reducible repeat (first | refine blk_drewN ?_ _ | refine blk_drew ?_ | refine blk_alloc ?_ _)); refine blk_put (cs := #[.int .i64 0, .int .i64 0, .int .i64 0, .int .i64 0]) ?_ 0 _ rfl; (with_reducible repeat (first | refine blk_drewN ?_ _ | refine blk_drew ?_ | refine blk_alloc ?_ _)); exact BK116.out) Tryz.underlying23 rfl (by kernel_rfl)) rfl ?_
            exact ⟨by first | rfl | (simp [errW_none, errW_some] <;> rfl) | (simp [*, errW_none, errW_some] <;> rfl), by repeat (first | (with_reducible first | exact HB.out | apply below_alloc | apply pw_below_drewN | apply below_drew1 | refine below_set ?_ GE116.out | refine below_set ?_ GE124.out) | exact HB.out)⟩
        · rw [if_neg c28] at H
          have c28b0 : (t131 == 0) = false := beq_eq_false_iff_ne.mpr c28
          have c28b1 : (t131 != 0) = true := bne_iff_ne.mpr c28
          simp only [Option.some.injEq, Prod.mk.injEq] at H
          obtain ⟨rfl, rfl, rfl, rfl, rfl⟩ := H
          have hnb39 := NB124_116.out
          have hnc39 := NB116_124.out
          have hcz40_0 : wr.cell? ⟨gb124, 0, none⟩ = some (.int .i64 x125000_1) := (blk_cell BK124.out 0).trans rfl
          have hcz40_1 : wr.cell? ⟨gb124, 1, none⟩ = some (.int .i64 (wrap64 ((t117.size : Int) - (t120.size : Int)))) := (blk_cell BK124.out 1).trans rfl
          have hcz40_2 : wr.cell? ⟨gb124, 2, none⟩ = some (.int .i64 t125) := (blk_cell BK124.out 2).trans rfl
          have hcz40_3 : wr.cell? ⟨gb124, 3, none⟩ = some (.int .i64 t127) := (blk_cell BK124.out 3).trans rfl
          have hfz40_0 := blk_frozen BK124.out 0
          have hfz40_1 := blk_frozen BK124.out 1
          have hfz40_2 := blk_frozen BK124.out 2
          have hfz40_3 := blk_frozen BK124.out 3
          go_wp2_with (first | ((with_reducible refine gate_callee (f := 10) rfl ?_); refine goesL_ (some 60) rfl rfl Tryz.func10 (by kernel_rfl) rfl #[.agg #[.int .i64 x125000_1, .int .i64 (wrap64 ((t117.size : Int) - (t120.size : Int))), .int .i64 t125, .int .i64 t127]] rfl (by (try simp only [List.map_toArray, List.map_cons, List.map_nil]); first | done | rfl) ?_; (with_reducible refine (value_Text.calls k1 x125000_1 (wrap64 ((t117.size : Int) - (t120.size : Int))) t125 t127 t130 t131 _ ?side1 A27.out).mono ?_); (case side1 => exact GW.step HG_.out (by repeat (first | (with_reducible first | exact HB.out | apply below_alloc | apply pw_below_drewN | apply below_drew1 | refine below_set ?_ GE116.out | refine below_set ?_ GE124.out) | exact HB.out))); rintro e w41 ⟨rfl, hb⟩; refine ⟨_, rfl, ?_⟩; have n0_ := Aside0.mk (blk_below (g := gb116) (o := .cells #[.int .i64 0, .int .i64 0, .int .i64 0, .int .i64 0] 23 (0, 0)) (by (with_reducible repeat (first | refine blk_drewN ?_ _ | refine blk_drew ?_ | refine blk_alloc ?_ _)); exact BK116.out) hb); have n1_ := Aside0.mk (blk_below (g := gb124) (o := .cells #[.int .i64 x125000_1, .int .i64 (wrap64 ((t117.size : Int) - (t120.size : Int))), .int .i64 t125, .int .i64 t127] 23 (0, 0)) (by (with_reducible repeat (first | refine blk_drewN ?_ _ | refine blk_drew ?_ | refine blk_alloc ?_ _)); exact BK124.out) hb); have n2_ := Aside0.mk (below_step (by repeat (first | (with_reducible first | exact HB.out | apply below_alloc | apply pw_below_drewN | apply below_drew1 | refine below_set ?_ GE116.out | refine below_set ?_ GE124.out) | exact HB.out)) hb); clear BK116; clear BK124; clear HB; have BK116 := n0_; have BK124 := n1_; have HB := n2_; clear n0_ n1_ n2_; (try clear hb); (try clear hb2); (try clear hk); (try clear hi); have hcz42_0 : w41.cell? ⟨gb116, 0, none⟩ = some (.int .i64 0) := (blk_cell BK116.out 0).trans rfl; have hcz42_1 : w41.cell? ⟨gb116, 1, none⟩ = some (.int .i64 0) := (blk_cell BK116.out 1).trans rfl; have hcz42_2 : w41.cell? ⟨gb116, 2, none⟩ = some (.int .i64 0) := (blk_cell BK116.out 2).trans rfl; have hcz42_3 : w41.cell? ⟨gb116, 3, none⟩ = some (.int .i64 0) := (blk_cell BK116.out 3).trans rfl; have hfz42_0 := blk_frozen BK116.out 0; have hfz42_1 := blk_frozen BK116.out 1; have hfz42_2 := blk_frozen BK116.out 2; have hfz42_3 := blk_frozen BK116.out 3))
          refine bodyPost_ret (results_ct rfl _ _ gb116 23 #[.int .i64 0, .int .i64 0, .int .i64 0, .int .i64 0] (0, 0) _ rfl (by (with_reducible repeat (first | refine blk_drewN ?_ _ | refine blk_drew ?_ | refine blk_alloc ?_ _)); refine blk_put (cs := #[.int .i64 0, .int .i64 0, .int .i64 0, .int .i64 0]) ?_ 3 _ rfl; (with_reducible repeat (first | refine blk_drewN ?_ _ | refine blk_drew ?_ | refine blk_alloc ?_ _)); refine blk_put (cs := #[.int .i64 0, .int .i64 0, .int .i64 0, .int .i64 0]) ?_ 2 _ rfl; (with_reducible repeat (first | refine blk_drewN ?_ _ | refine blk_drew ?_ | refine blk_alloc ?_ _)); refine blk_put (cs := #[.int .i64 0, .int .i64 0, .int .i64 0, .int .i64 0]) ?_ 1 _ rfl; (with_reducible repeat (first | refine blk_drewN ?_ _ | refine blk_drew ?_ | refine blk_alloc ?_ _)); refine blk_put (cs := #[.int .i64 0, .int .i64 0, .int .i64 0, .int .i64 0]) ?_ 0 _ rfl; (with_reducible repeat (first | refine blk_drewN ?_ _ | refine blk_drew ?_ | refine blk_alloc ?_ _)); exact BK116.out) Tryz.underlying23 rfl (by kernel_rfl)) rfl ?_
          exact ⟨by first | rfl | (simp [errW_none, errW_some] <;> rfl) | (simp [*, errW_none, errW_some] <;> rfl), by repeat (first | (with_reducible first | exact HB.out | apply below_alloc | apply pw_below_drewN | apply below_drew1 | refine below_set ?_ GE116.out | refine below_set ?_ GE124.out) | exact HB.out)⟩

end Go.Proofs.YtajbnfidcpfonaaGreatDoor.M
