-- Written by wip/mprint.py, this session's own program, over the translation. Lean checks it.
import Derived.Test.YtnpinngdiipogaaDoorM0
import Derived.Test.YtnpinngdiipogaaDoorM14
namespace Go.Proofs.YtnpinngdiipogaaDoor.M
open Go.RowKit Go.Proofs.YtnpinngdiipogaaDoorW.PrintWords Go.Proofs.YtnpinngdiipogaaDoorW.PrintLast Go.Proofs.YtnpinngdiipogaaDoorW.PrintMore
attribute [local go_sem] max2_int min2_int max_two min_two max_three min_three max_four min_four   -- for this text's walks alone
set_option linter.unusedVariables false
set_option linter.unusedSimpArgs false

/-! ### partitaref02_Read: function 30 -/
mutual
def partitaref02_Read.j0 : Nat → ByteArray → Bool → Option (Int × Int × Int × Int)
  | 0, _, _ => none
  | k + 1, x0, x17 => if x17 = true then (some (0, 0, 0, 21)) else (if 0 ≤ (wrap64 ((x0.size : Int) - 1)) then (if (wrap64 ((x0.size : Int) - 1)) < (x0.size : Int) then (if 0 ≤ (wrap64 ((x0.size : Int) - 2)) then (if (wrap64 ((x0.size : Int) - 2)) ≤ (x0.size : Int) then (if (x0.extract ((wrap64 ((x0.size : Int) - 2)) : Int).toNat x0.size).toList = ([45, 49] : List UInt8) then (partitaref02_Read.j1 k x0 (-1)) else (partitaref02_Read.j1 k x0 (wrap64 ((wrap64 (bt x0 (wrap64 ((x0.size : Int) - 1)))) - 48)))) else (none)) else (none)) else (none)) else (none))
def partitaref02_Read.j1 : Nat → ByteArray → Int → Option (Int × Int × Int × Int)
  | 0, _, _ => none
  | k + 1, x0, x4 => partitaref02_Read.l0 k x0 x4 0
def partitaref02_Read.l0 : Nat → ByteArray → Int → Int → Option (Int × Int × Int × Int)
  | 0, _, _, _ => none
  | k + 1, x0, x4, x5 => if x5 < 7 then (partitaref02_Read.l1 k x0 x4 x5 (-2)) else (some (0, 0, 0, 21))
def partitaref02_Read.l1 : Nat → ByteArray → Int → Int → Int → Option (Int × Int × Int × Int)
  | 0, _, _, _, _ => none
  | k + 1, x0, x4, x5, x6 => if x6 ≤ 2 then ((partitaref02_Text.f k x5 x6 x4).bind fun bt231 => (if bt231.2 = 0 then (if bt231.1.toList = x0.toList then (some (x5, x6, x4, 0)) else (partitaref02_Read.l1 k x0 x4 x5 (wrap64 (x6 + 1)))) else (partitaref02_Read.l1 k x0 x4 x5 (wrap64 (x6 + 1))))) else (partitaref02_Read.l0 k x0 x4 (wrap64 (x5 + 1)))
end
def partitaref02_Read.f (k : Nat) (a0 : ByteArray) : Option (Int × Int × Int × Int) := if (a0.size : Int) < 2 then (partitaref02_Read.j0 k a0 true) else (partitaref02_Read.j0 k a0 (decide ((a0.size : Int) > 5)))
theorem partitaref02_Read.mono_l : ∀ k, (∀ y0 y1, LeO (partitaref02_Read.j0 k y0 y1) (partitaref02_Read.j0 (k + 1) y0 y1)) ∧ (∀ y0 y1, LeO (partitaref02_Read.j1 k y0 y1) (partitaref02_Read.j1 (k + 1) y0 y1)) ∧ (∀ y0 y1 y2, LeO (partitaref02_Read.l0 k y0 y1 y2) (partitaref02_Read.l0 (k + 1) y0 y1 y2)) ∧ (∀ y0 y1 y2 y3, LeO (partitaref02_Read.l1 k y0 y1 y2 y3) (partitaref02_Read.l1 (k + 1) y0 y1 y2 y3))
  | 0 => ⟨fun _ _ r h => by simp [partitaref02_Read.j0] at h, fun _ _ r h => by simp [partitaref02_Read.j1] at h, fun _ _ _ r h => by simp [partitaref02_Read.l0] at h, fun _ _ _ _ r h => by simp [partitaref02_Read.l1] at h⟩
  | k + 1 => by
    obtain ⟨ih0, ih1, ih2, ih3⟩ := partitaref02_Read.mono_l k
    refine ⟨?_, ?_, ?_, ?_⟩
    · intro y0 y1
      unfold partitaref02_Read.j0
      repeat' first
      | (with_reducible exact ih0 _ _)
      | (with_reducible exact ih1 _ _)
      | (with_reducible exact ih2 _ _ _)
      | (with_reducible exact ih3 _ _ _ _)
      | (with_reducible exact partitaref02_Text.mono _ _ _ _)
      | (with_reducible exact LeO.refl _)
      | (with_reducible exact LeO.none _)
      | (with_reducible refine LeO.ite ?_ ?_)
      | (with_reducible refine LeO.bind ?_ (fun _ => ?_))
      | exact ih0 _ _
      | exact ih1 _ _
      | exact ih2 _ _ _
      | exact ih3 _ _ _ _
      | exact partitaref02_Text.mono _ _ _ _
      | exact LeO.none _
      | refine LeO.ite ?_ ?_
      | refine LeO.bind ?_ (fun _ => ?_)
    · intro y0 y1
      unfold partitaref02_Read.j1
      repeat' first
      | (with_reducible exact ih0 _ _)
      | (with_reducible exact ih1 _ _)
      | (with_reducible exact ih2 _ _ _)
      | (with_reducible exact ih3 _ _ _ _)
      | (with_reducible exact partitaref02_Text.mono _ _ _ _)
      | (with_reducible exact LeO.refl _)
      | (with_reducible exact LeO.none _)
      | (with_reducible refine LeO.ite ?_ ?_)
      | (with_reducible refine LeO.bind ?_ (fun _ => ?_))
      | exact ih0 _ _
      | exact ih1 _ _
      | exact ih2 _ _ _
      | exact ih3 _ _ _ _
      | exact partitaref02_Text.mono _ _ _ _
      | exact LeO.none _
      | refine LeO.ite ?_ ?_
      | refine LeO.bind ?_ (fun _ => ?_)
    · intro y0 y1 y2
      unfold partitaref02_Read.l0
      repeat' first
      | (with_reducible exact ih0 _ _)
      | (with_reducible exact ih1 _ _)
      | (with_reducible exact ih2 _ _ _)
      | (with_reducible exact ih3 _ _ _ _)
      | (with_reducible exact partitaref02_Text.mono _ _ _ _)
      | (with_reducible exact LeO.refl _)
      | (with_reducible exact LeO.none _)
      | (with_reducible refine LeO.ite ?_ ?_)
      | (with_reducible refine LeO.bind ?_ (fun _ => ?_))
      | exact ih0 _ _
      | exact ih1 _ _
      | exact ih2 _ _ _
      | exact ih3 _ _ _ _
      | exact partitaref02_Text.mono _ _ _ _
      | exact LeO.none _
      | refine LeO.ite ?_ ?_
      | refine LeO.bind ?_ (fun _ => ?_)
    · intro y0 y1 y2 y3
      unfold partitaref02_Read.l1
      repeat' first
      | (with_reducible exact ih0 _ _)
      | (with_reducible exact ih1 _ _)
      | (with_reducible exact ih2 _ _ _)
      | (with_reducible exact ih3 _ _ _ _)
      | (with_reducible exact partitaref02_Text.mono _ _ _ _)
      | (with_reducible exact LeO.refl _)
      | (with_reducible exact LeO.none _)
      | (with_reducible refine LeO.ite ?_ ?_)
      | (with_reducible refine LeO.bind ?_ (fun _ => ?_))
      | exact ih0 _ _
      | exact ih1 _ _
      | exact ih2 _ _ _
      | exact ih3 _ _ _ _
      | exact partitaref02_Text.mono _ _ _ _
      | exact LeO.none _
      | refine LeO.ite ?_ ?_
      | refine LeO.bind ?_ (fun _ => ?_)
theorem partitaref02_Read.mono : ∀ a0 k, LeO (partitaref02_Read.f k a0) (partitaref02_Read.f (k + 1) a0) := by
  intro a0 k
  obtain ⟨ih0, ih1, ih2, ih3⟩ := partitaref02_Read.mono_l k
  unfold partitaref02_Read.f
  repeat' first
      | (with_reducible exact ih0 _ _)
      | (with_reducible exact ih1 _ _)
      | (with_reducible exact ih2 _ _ _)
      | (with_reducible exact ih3 _ _ _ _)
      | (with_reducible exact partitaref02_Text.mono _ _ _ _)
      | (with_reducible exact LeO.refl _)
      | (with_reducible exact LeO.none _)
      | (with_reducible refine LeO.ite ?_ ?_)
      | (with_reducible refine LeO.bind ?_ (fun _ => ?_))
      | exact ih0 _ _
      | exact ih1 _ _
      | exact ih2 _ _ _
      | exact ih3 _ _ _ _
      | exact partitaref02_Text.mono _ _ _ _
      | exact LeO.none _
      | refine LeO.ite ?_ ?_
      | refine LeO.bind ?_ (fun _ => ?_)
set_option maxHeartbeats 8000000 in
set_option maxRecDepth 100000 in
theorem partitaref02_Read.calls (k : Nat) (a0 : ByteArray) (r1 : Int) (r2 : Int) (r3 : Int) (r4 : Int) (w : World) (h : partitaref02_Read.f k a0 = some (r1, r2, r3, r4)) :
    Calls Tryd.prog 30 #[.string a0] w fun e w' => e = .returned (.tuple #[.agg #[.int .i64 r1, .int .i64 r2, .int .i64 r3], .int .i64 r4]) ∧ Below w.heap.size w w' := by
  have hu23 := Tryd.underlying23
  have HB := Aside0.mk (Below.refl w.heap.size w)
  have H : (if (a0.size : Int) < 2 then (partitaref02_Read.j0 k a0 true) else (partitaref02_Read.j0 k a0 (decide ((a0.size : Int) > 5)))) = some (r1, r2, r3, r4) := h
  clear h
  have HC2 := Aside0.mk H
  clear H
  go_enter Tryd.func30, Tryd.ntmps30
  go_upto_region 1 with (first | ((with_reducible refine gate_dst (N := 2) rfl ?_); (try (refine gate_guard (by rfl) ?_; dsimp only)); refine box_event ?hg (N := 2) ?hd (cs := #[.int .i64 0, .int .i64 0, .int .i64 0]) (t := 23) ?hr ?_; (case hd => rfl); (case hg => rfl); (case hr => first | (go_simp; done) | (go_simp; rfl)); intro gb229 hg w3 hbox hb; have n0_ := Aside0.mk (below_step (by repeat (first | (with_reducible first | exact HB.out | apply below_alloc | apply pw_below_drewN | apply below_drew1) | exact HB.out)) hb); have n1_ := Aside0.mk (hbox); have n2_ := Aside0.mk ((by rw [hg]; exact (below_size (by repeat (first | (with_reducible first | exact HB.out | apply below_alloc | apply pw_below_drewN | apply below_drew1) | exact HB.out))) : w.heap.size ≤ gb229)); have n3_ := n2_; clear HB; have HB := n0_; have BK229 := n1_; have GW229 := n2_; have GE229 := n3_; clear n0_ n1_ n2_ n3_; clear hb hbox hg))
  (try simp only [Act.put, List.setIfInBounds_toArray, List.set_cons_zero, List.set_cons_succ])
  go_cut [17] (fun v17 wc => ∃ (kq : Nat) (x17_1 : Bool), v17 = .bool x17_1 ∧ Aside0 (partitaref02_Read.j0 kq a0 x17_1 = some (r1, r2, r3, r4)) ∧ Aside0 (kq ≤ k) ∧ Aside0 (wc.heap[gb229]? = some (.cells #[.int .i64 0, .int .i64 0, .int .i64 0] 23 (0, 0))) ∧ Aside0 (Below w.heap.size w wc))
  case first =>
    have H := HC2.out
    clear HC2
    by_cases c4 : (a0.size : Int) < 2
    · rw [if_pos c4] at H
      have c4b0 : decide ((a0.size : Int) < 2) = true := decide_eq_true c4
      have c4b1 : decide (a0.size < 2) = true := decide_eq_true (by omega)
      clear c4
      (first | rw [c4b0] | (simp only [i64_w, i32_w]; rw [c4b0]) | skip)
      have H' := Aside0.mk H
      clear H
      go_wp2
      go_meet
      case rel => exact ⟨_, (true), (by first | rfl | (simp; done) | (simp [*]; done)), H', ⟨by first | omega | exact Nat.le_refl _⟩, ⟨by (with_reducible repeat (first | refine blk_drewN ?_ _ | refine blk_drew ?_ | refine blk_alloc ?_ _)); exact BK229.out⟩, ⟨by repeat (first | (with_reducible first | exact HB.out | apply below_alloc | apply pw_below_drewN | apply below_drew1 | refine below_set ?_ GE229.out) | exact HB.out)⟩⟩
    · rw [if_neg c4] at H
      have c4b0 : decide ((a0.size : Int) < 2) = false := decide_eq_false c4
      have c4b1 : decide (a0.size < 2) = false := decide_eq_false (by omega)
      clear c4
      (first | rw [c4b0] | (simp only [i64_w, i32_w]; rw [c4b0]) | skip)
      have H' := Aside0.mk H
      clear H
      go_wp2
      go_meet
      case rel => exact ⟨_, (decide ((a0.size : Int) > 5)), (by first | rfl | (simp; done) | (simp [*]; done)), H', ⟨by first | omega | exact Nat.le_refl _⟩, ⟨by (with_reducible repeat (first | refine blk_drewN ?_ _ | refine blk_drew ?_ | refine blk_alloc ?_ _)); exact BK229.out⟩, ⟨by repeat (first | (with_reducible first | exact HB.out | apply below_alloc | apply pw_below_drewN | apply below_drew1 | refine below_set ?_ GE229.out) | exact HB.out)⟩⟩
  case rest =>
    clear HC2
    try clear p2
    try clear c3
    try clear c4
    try clear c4b0
    try clear c4b1
    obtain ⟨kq, x17_1, rfl, HA, HJ1, BK229, HB⟩ := hcut
    cases kq with
    | zero => exact absurd HA.out (by simp [partitaref02_Read.j0])
    | succ kj1 =>
      have H := HA.out
      clear HA
      simp only [partitaref02_Read.j0] at H
      by_cases c5 : x17_1 = true
      · subst c5
        have H1 : (some (0, 0, 0, 21)) = some (r1, r2, r3, r4) := by rw [if_pos rfl] at H; exact H
        clear H
        have H := H1
        clear H1
        simp only [Option.some.injEq, Prod.mk.injEq] at H
        obtain ⟨rfl, rfl, rfl, rfl⟩ := H
        have hcz6_0 : wc.cell? ⟨gb229, 0, none⟩ = some (.int .i64 0) := (blk_cell BK229.out 0).trans rfl
        have hcz6_1 : wc.cell? ⟨gb229, 1, none⟩ = some (.int .i64 0) := (blk_cell BK229.out 1).trans rfl
        have hcz6_2 : wc.cell? ⟨gb229, 2, none⟩ = some (.int .i64 0) := (blk_cell BK229.out 2).trans rfl
        have hfz6_0 := blk_frozen BK229.out 0
        have hfz6_1 := blk_frozen BK229.out 1
        have hfz6_2 := blk_frozen BK229.out 2
        go_wp2
        refine bodyPost_ret (results_ct rfl _ _ gb229 23 #[.int .i64 0, .int .i64 0, .int .i64 0] (0, 0) _ rfl (by (with_reducible repeat (first | refine blk_drewN ?_ _ | refine blk_drew ?_ | refine blk_alloc ?_ _)); refine blk_put (cs := #[.int .i64 0, .int .i64 0, .int .i64 0]) ?_ 2 _ rfl; (with_reducible repeat (first | refine blk_drewN ?_ _ | refine blk_drew ?_ | refine blk_alloc ?_ _)); refine blk_put (cs := #[.int .i64 0, .int .i64 0, .int .i64 0]) ?_ 1 _ rfl; (with_reducible repeat (first | refine blk_drewN ?_ _ | refine blk_drew ?_ | refine blk_alloc ?_ _)); refine blk_put (cs := #[.int .i64 0, .int .i64 0, .int .i64 0]) ?_ 0 _ rfl; (with_reducible repeat (first | refine blk_drewN ?_ _ | refine blk_drew ?_ | refine blk_alloc ?_ _)); exact BK229.out) Tryd.underlying23 rfl (by kernel_rfl)) rfl ?_
        exact ⟨by first | rfl | (simp [errW_none, errW_some] <;> rfl) | (simp [*, errW_none, errW_some] <;> rfl), by repeat (first | (with_reducible first | exact HB.out | apply below_alloc | apply pw_below_drewN | apply below_drew1 | refine below_set ?_ GE229.out) | exact HB.out)⟩
      · replace c5 := Bool.eq_false_iff.mpr c5
        subst c5
        have H1 : (if 0 ≤ (wrap64 ((a0.size : Int) - 1)) then (if (wrap64 ((a0.size : Int) - 1)) < (a0.size : Int) then (if 0 ≤ (wrap64 ((a0.size : Int) - 2)) then (if (wrap64 ((a0.size : Int) - 2)) ≤ (a0.size : Int) then (if (a0.extract ((wrap64 ((a0.size : Int) - 2)) : Int).toNat a0.size).toList = ([45, 49] : List UInt8) then (partitaref02_Read.j1 kj1 a0 (-1)) else (partitaref02_Read.j1 kj1 a0 (wrap64 ((wrap64 (bt a0 (wrap64 ((a0.size : Int) - 1)))) - 48)))) else (none)) else (none)) else (none)) else (none)) = some (r1, r2, r3, r4) := by rw [if_neg (show ¬ (false = true) by decide)] at H; exact H
        clear H
        have H := H1
        clear H1
        obtain ⟨ji7, hji7⟩ : ∃ j_ : Int, (wrap64 ((a0.size : Int) - 1)) = j_ := ⟨_, rfl⟩
        replace H : (if 0 ≤ (ji7) then (if (ji7) < (a0.size : Int) then (if 0 ≤ (wrap64 ((a0.size : Int) - 2)) then (if (wrap64 ((a0.size : Int) - 2)) ≤ (a0.size : Int) then (if (a0.extract ((wrap64 ((a0.size : Int) - 2)) : Int).toNat a0.size).toList = ([45, 49] : List UInt8) then (partitaref02_Read.j1 kj1 a0 (-1)) else (partitaref02_Read.j1 kj1 a0 (wrap64 ((wrap64 (bt a0 (ji7))) - 48)))) else (none)) else (none)) else (none)) else (none)) = some (r1, r2, r3, r4) := by first | (rw [hji7] at H; exact H) | (simp only [hji7] at H ⊢; exact H)
        have hji7w : (IntKind.i64.wrap ((a0.size : Int) - 1)) = ji7 := (i64_w _).trans hji7
        by_cases c8 : 0 ≤ (ji7)
        · rw [if_pos c8] at H
          have c8b0 : decide (0 ≤ (ji7)) = true := decide_eq_true c8
          clear c8
          by_cases c9 : (ji7) < (a0.size : Int)
          · rw [if_pos c9] at H
            have c9b0 : decide ((ji7) < (a0.size : Int)) = true := decide_eq_true c9
            clear c9
            obtain ⟨ji11, hji11⟩ : ∃ j_ : Int, (wrap64 ((a0.size : Int) - 2)) = j_ := ⟨_, rfl⟩
            replace H : (if 0 ≤ (ji11) then (if (ji11) ≤ (a0.size : Int) then (if (a0.extract ((ji11) : Int).toNat a0.size).toList = ([45, 49] : List UInt8) then (partitaref02_Read.j1 kj1 a0 (-1)) else (partitaref02_Read.j1 kj1 a0 (wrap64 ((wrap64 (bt a0 (ji7))) - 48)))) else (none)) else (none)) = some (r1, r2, r3, r4) := by first | (rw [hji11] at H; exact H) | (simp only [hji11] at H ⊢; exact H)
            have hji11w : (IntKind.i64.wrap ((a0.size : Int) - 2)) = ji11 := (i64_w _).trans hji11
            by_cases c12 : 0 ≤ (ji11)
            · rw [if_pos c12] at H
              have c12b0 := eq_true c12
              have c12b1 : decide (0 ≤ (ji11)) = true := decide_eq_true c12
              clear c12
              by_cases c13 : (ji11) ≤ (a0.size : Int)
              · rw [if_pos c13] at H
                have c13b0 := eq_true c13
                have c13b1 : decide ((ji11) ≤ (a0.size : Int)) = true := decide_eq_true c13
                clear c13
                have HC14 := Aside0.mk H
                clear H
                have p10 : 0 ≤ ((ji7) : Int) := of_decide_eq_true (by first | (with_reducible assumption) | assumption)
                have q10 : (ji7) < (a0.size : Int) := of_decide_eq_true (by first | (with_reducible assumption) | assumption)
                have hx10 := bt_at a0 (ji7)
                replace p10 := eq_true p10
                replace q10 := eq_true q10
                go_upto_if 31 with (fail)
                go_cut [4] (fun v4 wc => ∃ (kq : Nat) (x4_13 : Int), v4 = .int .i64 x4_13 ∧ Aside0 (partitaref02_Read.j1 kq a0 x4_13 = some (r1, r2, r3, r4)) ∧ Aside0 (kq ≤ kj1) ∧ Aside0 (wc.heap[gb229]? = some (.cells #[.int .i64 0, .int .i64 0, .int .i64 0] 23 (0, 0))) ∧ Aside0 (Below w.heap.size w wc))
                case first =>
                  have H := HC14.out
                  clear HC14
                  by_cases c15 : (a0.extract ((ji11) : Int).toNat a0.size).toList = ([45, 49] : List UInt8)
                  · rw [if_pos c15] at H
                    have c15b0 : ((a0.extract ((ji11) : Int).toNat a0.size).toList == ([45, 49] : List UInt8)) = true := beq_iff_eq.mpr c15
                    have c15b1 : ((a0.extract ((ji11) : Int).toNat a0.size).toList != ([45, 49] : List UInt8)) = false := bne_eq_false_iff_eq.mpr c15
                    clear c15
                    (first | rw [c15b0] | (simp only [i64_w, i32_w]; rw [c15b0]) | skip)
                    have H' := Aside0.mk H
                    clear H
                    go_wp2
                    go_meet
                    case rel => exact ⟨_, ((-1)), (by first | rfl | (simp; done) | (simp [*]; done)), H', ⟨by have := HJ1.out; first | omega | exact Nat.le_refl _⟩, ⟨by (with_reducible repeat (first | refine blk_drewN ?_ _ | refine blk_drew ?_ | refine blk_alloc ?_ _)); exact BK229.out⟩, ⟨by repeat (first | (with_reducible first | exact HB.out | apply below_alloc | apply pw_below_drewN | apply below_drew1 | refine below_set ?_ GE229.out) | exact HB.out)⟩⟩
                  · rw [if_neg c15] at H
                    have c15b0 : ((a0.extract ((ji11) : Int).toNat a0.size).toList == ([45, 49] : List UInt8)) = false := beq_eq_false_iff_ne.mpr c15
                    have c15b1 : ((a0.extract ((ji11) : Int).toNat a0.size).toList != ([45, 49] : List UInt8)) = true := bne_iff_ne.mpr c15
                    (first | rw [c15b0] | (simp only [i64_w, i32_w]; rw [c15b0]) | skip)
                    have H' := Aside0.mk H
                    clear H
                    go_wp2
                    go_meet
                    case rel => exact ⟨_, (wrap64 ((wrap64 (bt a0 (ji7))) - 48)), (by first | rfl | (simp; done) | (simp only [← hji7] <;> (first | rfl | simp)) | (simp [*]; done)), H', ⟨by have := HJ1.out; first | omega | exact Nat.le_refl _⟩, ⟨by (with_reducible repeat (first | refine blk_drewN ?_ _ | refine blk_drew ?_ | refine blk_alloc ?_ _)); exact BK229.out⟩, ⟨by repeat (first | (with_reducible first | exact HB.out | apply below_alloc | apply pw_below_drewN | apply below_drew1 | refine below_set ?_ GE229.out) | exact HB.out)⟩⟩
                case rest =>
                  clear HC14
                  try clear c1
                  try clear p1
                  try clear q1
                  try clear hx1
                  try clear p2
                  try clear c3
                  try clear c4
                  try clear c4b0
                  try clear c4b1
                  try clear c5
                  try clear p6
                  try clear c8
                  try clear c8b0
                  try clear c9
                  try clear c9b0
                  try clear p10
                  try clear q10
                  try clear hx10
                  try clear c12
                  try clear c12b0
                  try clear c12b1
                  try clear c13
                  try clear c13b0
                  try clear c13b1
                  try clear c15
                  try clear c15b0
                  try clear c15b1
                  try clear hcz6_0
                  try clear hcz6_1
                  try clear hcz6_2
                  try clear hfz6_0
                  try clear hfz6_1
                  try clear hfz6_2
                  try clear p10
                  try clear p2
                  try clear q10
                  obtain ⟨kq, x4_13, rfl, HA, HJ13, BK229, HB⟩ := hcut
                  cases kq with
                  | zero => exact absurd HA.out (by simp [partitaref02_Read.j1])
                  | succ kj13 =>
                    have H := HA.out
                    clear HA
                    simp only [partitaref02_Read.j1] at H
                    have H' := Aside0.mk H
                    clear H
                    go_wp2
                    go_loopg [5] kj13 (fun kq v5 w' => ∃ (x5_3 : Int) (x230000_3 : Int) (x230001_3 : Int) (x230002_3 : Int), v5 = .int .i64 x5_3 ∧ Aside0 (partitaref02_Read.l0 kq a0 x4_13 x5_3 = some (r1, r2, r3, r4)) ∧ Aside0 (kq ≤ kj13) ∧ Aside0 (w'.heap[gb229]? = some (.cells #[.int .i64 x230000_3, .int .i64 x230001_3, .int .i64 x230002_3] 23 (0, 0))) ∧ Aside0 (Below w.heap.size w w'))
                    case atStart => exact ⟨(0), (0), (0), (0), (by first | rfl | (simp; done) | (simp [*]; done)), H', ⟨Nat.le_refl _⟩, ⟨by (with_reducible repeat (first | refine blk_drewN ?_ _ | refine blk_drew ?_ | refine blk_alloc ?_ _)); exact BK229.out⟩, ⟨by repeat (first | (with_reducible first | exact HB.out | apply below_alloc | apply pw_below_drewN | apply below_drew1 | refine below_set ?_ GE229.out) | exact HB.out)⟩⟩
                    case round =>
                      clear H'
                      try clear c1
                      try clear p1
                      try clear q1
                      try clear hx1
                      try clear p2
                      try clear c3
                      try clear c4
                      try clear c4b0
                      try clear c4b1
                      try clear c5
                      try clear p6
                      try clear c8
                      try clear c8b0
                      try clear c9
                      try clear c9b0
                      try clear p10
                      try clear q10
                      try clear hx10
                      try clear c12
                      try clear c12b0
                      try clear c12b1
                      try clear c13
                      try clear c13b0
                      try clear c13b1
                      try clear c15
                      try clear c15b0
                      try clear c15b1
                      try clear hcz6_0
                      try clear hcz6_1
                      try clear hcz6_2
                      try clear hfz6_0
                      try clear hfz6_1
                      try clear hfz6_2
                      try clear p1
                      try clear p10
                      try clear p2
                      try clear p6
                      try clear q1
                      try clear q10
                      obtain ⟨x5_3, x230000_3, x230001_3, x230002_3, rfl, HA, HK3, BK229, HB⟩ := hrel
                      cases gk with
                      | zero => exact absurd HA.out (by simp [partitaref02_Read.l0])
                      | succ k3 =>
                        have H := HA.out
                        clear HA
                        simp only [partitaref02_Read.l0] at H
                        by_cases c16 : x5_3 < 7
                        · rw [if_pos c16] at H
                          have c16b0 : decide (x5_3 < 7) = true := decide_eq_true c16
                          clear c16
                          have H' := Aside0.mk H
                          clear H
                          go_wp2
                          go_loopg [6] k3 (fun kq v6 w' => ∃ (x6_4 : Int) (x230000_4 : Int) (x230001_4 : Int) (x230002_4 : Int), v6 = .int .i64 x6_4 ∧ Aside0 (partitaref02_Read.l1 kq a0 x4_13 x5_3 x6_4 = some (r1, r2, r3, r4)) ∧ Aside0 (kq ≤ k3) ∧ Aside0 (w'.heap[gb229]? = some (.cells #[.int .i64 x230000_4, .int .i64 x230001_4, .int .i64 x230002_4] 23 (0, 0))) ∧ Aside0 (Below w.heap.size w w'))
                          case atStart => exact ⟨((-2)), (x230000_3), (x230001_3), (x230002_3), (by first | rfl | (simp; done) | (simp [*]; done)), H', ⟨Nat.le_refl _⟩, ⟨by (with_reducible repeat (first | refine blk_drewN ?_ _ | refine blk_drew ?_ | refine blk_alloc ?_ _)); exact BK229.out⟩, ⟨by repeat (first | (with_reducible first | exact HB.out | apply below_alloc | apply pw_below_drewN | apply below_drew1 | refine below_set ?_ GE229.out) | exact HB.out)⟩⟩
                          case round =>
                            clear H'
                            try clear c1
                            try clear p1
                            try clear q1
                            try clear hx1
                            try clear p2
                            try clear c3
                            try clear c4
                            try clear c4b0
                            try clear c4b1
                            try clear c5
                            try clear p6
                            try clear c8
                            try clear c8b0
                            try clear c9
                            try clear c9b0
                            try clear p10
                            try clear q10
                            try clear hx10
                            try clear c12
                            try clear c12b0
                            try clear c12b1
                            try clear c13
                            try clear c13b0
                            try clear c13b1
                            try clear c15
                            try clear c15b0
                            try clear c15b1
                            try clear c16
                            try clear c16b0
                            try clear hcz6_0
                            try clear hcz6_1
                            try clear hcz6_2
                            try clear hfz6_0
                            try clear hfz6_1
                            try clear hfz6_2
                            try clear p1
                            try clear p10
                            try clear p2
                            try clear p6
                            try clear q1
                            try clear q10
                            obtain ⟨x6_4, x230000_4, x230001_4, x230002_4, rfl, HA, HK4, BK229, HB⟩ := hrel
                            cases gk with
                            | zero => exact absurd HA.out (by simp [partitaref02_Read.l1])
                            | succ k4 =>
                              have H := HA.out
                              clear HA
                              simp only [partitaref02_Read.l1] at H
                              by_cases c17 : x6_4 ≤ 2
                              · rw [if_pos c17] at H
                                have c17b0 : decide (x6_4 ≤ 2) = true := decide_eq_true c17
                                clear c17
                                replace H := Option.bind_eq_some_iff.mp H
                                obtain ⟨⟨t231, t232⟩, A180, H⟩ := H
                                replace H : (if t232 = 0 then (if t231.toList = a0.toList then (some (x5_3, x6_4, x4_13, 0)) else (partitaref02_Read.l1 k4 a0 x4_13 x5_3 (wrap64 (x6_4 + 1)))) else (partitaref02_Read.l1 k4 a0 x4_13 x5_3 (wrap64 (x6_4 + 1)))) = some (r1, r2, r3, r4) := H
                                have A18 := Aside0.mk A180
                                clear A180
                                by_cases c19 : t232 = 0
                                · rw [if_pos c19] at H
                                  have c19b0 : (t232 == 0) = true := beq_iff_eq.mpr c19
                                  have c19b1 : (t232 != 0) = false := bne_eq_false_iff_eq.mpr c19
                                  clear c19
                                  by_cases c20 : t231.toList = a0.toList
                                  · rw [if_pos c20] at H
                                    have c20b0 : (t231.toList == a0.toList) = true := beq_iff_eq.mpr c20
                                    have c20b1 : (t231.toList != a0.toList) = false := bne_eq_false_iff_eq.mpr c20
                                    clear c20
                                    simp only [Option.some.injEq, Prod.mk.injEq] at H
                                    obtain ⟨rfl, rfl, rfl, rfl⟩ := H
                                    go_wp2_with (first | ((with_reducible refine gate_dst (N := 7) rfl ?_); (try (refine gate_guard (by rfl) ?_; dsimp only)); refine box_event ?hg (N := 7) ?hd (cs := #[.int .i64 0, .int .i64 0, .int .i64 0]) (t := 23) ?hr ?_; (case hd => rfl); (case hg => rfl); (case hr => first | (go_simp; done) | (go_simp; rfl)); intro gb230 hg w21 hbox hb; have n0_ := Aside0.mk (blk_below (g := gb229) (o := .cells #[.int .i64 x230000_4, .int .i64 x230001_4, .int .i64 x230002_4] 23 (0, 0)) (by (with_reducible repeat (first | refine blk_drewN ?_ _ | refine blk_drew ?_ | refine blk_alloc ?_ _)); exact BK229.out) hb); have n1_ := Aside0.mk (below_step (by repeat (first | (with_reducible first | exact HB.out | apply below_alloc | apply pw_below_drewN | apply below_drew1 | refine below_set ?_ GE229.out) | exact HB.out)) hb); have n2_ := Aside0.mk (hbox); have n3_ := Aside0.mk ((by rw [hg]; exact (below_size (by repeat (first | (with_reducible first | exact HB.out | apply below_alloc | apply pw_below_drewN | apply below_drew1 | refine below_set ?_ GE229.out) | exact HB.out))) : w.heap.size ≤ gb230)); have n4_ := n3_; have n5_ := Aside0.mk ((by rw [hg]; exact Nat.ne_of_lt (blk_lt (g := gb229) (o := .cells #[.int .i64 x230000_4, .int .i64 x230001_4, .int .i64 x230002_4] 23 (0, 0)) (by (with_reducible repeat (first | refine blk_drewN ?_ _ | refine blk_drew ?_ | refine blk_alloc ?_ _)); exact BK229.out)) : gb229 ≠ gb230)); have n6_ := Aside0.mk n5_.out.symm; clear BK229; clear HB; have BK229 := n0_; have HB := n1_; have BK230 := n2_; have GW230 := n3_; have GE230 := n4_; have NB229_230 := n5_; have NB230_229 := n6_; clear n0_ n1_ n2_ n3_ n4_ n5_ n6_; clear hb hbox hg; have hnb22 := NB230_229.out; have hnc22 := NB229_230.out; have hcz23_0 : w21.cell? ⟨gb230, 0, none⟩ = some (.int .i64 0) := (blk_cell BK230.out 0).trans rfl; have hcz23_1 : w21.cell? ⟨gb230, 1, none⟩ = some (.int .i64 0) := (blk_cell BK230.out 1).trans rfl; have hcz23_2 : w21.cell? ⟨gb230, 2, none⟩ = some (.int .i64 0) := (blk_cell BK230.out 2).trans rfl; have hfz23_0 := blk_frozen BK230.out 0; have hfz23_1 := blk_frozen BK230.out 1; have hfz23_2 := blk_frozen BK230.out 2) | ((with_reducible refine gate_callee (f := 19) rfl ?_); refine goesL_ (some 46) rfl rfl Tryd.func19 (by kernel_rfl) rfl #[.agg #[.int .i64 x5_3, .int .i64 x6_4, .int .i64 x4_13]] rfl (by (try simp only [List.map_toArray, List.map_cons, List.map_nil]); first | done | rfl) ?_; (with_reducible refine (partitaref02_Text.calls k4 x5_3 x6_4 x4_13 t231 t232 _ A18.out).mono ?_); rintro e w24 ⟨rfl, hb⟩; refine ⟨_, rfl, ?_⟩; have n0_ := Aside0.mk (blk_below (g := gb229) (o := .cells #[.int .i64 x230000_4, .int .i64 x230001_4, .int .i64 x230002_4] 23 (0, 0)) (by (with_reducible repeat (first | refine blk_drewN ?_ _ | refine blk_drew ?_ | refine blk_alloc ?_ _)); refine blk_far ?_ NB229_230.out _; (with_reducible repeat (first | refine blk_drewN ?_ _ | refine blk_drew ?_ | refine blk_alloc ?_ _)); refine blk_far ?_ NB229_230.out _; (with_reducible repeat (first | refine blk_drewN ?_ _ | refine blk_drew ?_ | refine blk_alloc ?_ _)); refine blk_far ?_ NB229_230.out _; (with_reducible repeat (first | refine blk_drewN ?_ _ | refine blk_drew ?_ | refine blk_alloc ?_ _)); exact BK229.out) hb); have n1_ := Aside0.mk (blk_below (g := gb230) (o := .cells #[.int .i64 x5_3, .int .i64 x6_4, .int .i64 x4_13] 23 (0, 0)) (by (with_reducible repeat (first | refine blk_drewN ?_ _ | refine blk_drew ?_ | refine blk_alloc ?_ _)); refine blk_put (cs := #[.int .i64 x5_3, .int .i64 x6_4, .int .i64 0]) ?_ 2 _ rfl; (with_reducible repeat (first | refine blk_drewN ?_ _ | refine blk_drew ?_ | refine blk_alloc ?_ _)); refine blk_put (cs := #[.int .i64 x5_3, .int .i64 0, .int .i64 0]) ?_ 1 _ rfl; (with_reducible repeat (first | refine blk_drewN ?_ _ | refine blk_drew ?_ | refine blk_alloc ?_ _)); refine blk_put (cs := #[.int .i64 0, .int .i64 0, .int .i64 0]) ?_ 0 _ rfl; (with_reducible repeat (first | refine blk_drewN ?_ _ | refine blk_drew ?_ | refine blk_alloc ?_ _)); exact BK230.out) hb); have n2_ := Aside0.mk (below_step (by repeat (first | (with_reducible first | exact HB.out | apply below_alloc | apply pw_below_drewN | apply below_drew1 | refine below_set ?_ GE229.out | refine below_set ?_ GE230.out) | exact HB.out)) hb); clear BK229; clear BK230; clear HB; have BK229 := n0_; have BK230 := n1_; have HB := n2_; clear n0_ n1_ n2_; (try clear hb); (try clear hb2); (try clear hk); (try clear hi); have hcz25_0 : w24.cell? ⟨gb230, 0, none⟩ = some (.int .i64 x5_3) := (blk_cell BK230.out 0).trans rfl; have hcz25_1 : w24.cell? ⟨gb230, 1, none⟩ = some (.int .i64 x6_4) := (blk_cell BK230.out 1).trans rfl; have hcz25_2 : w24.cell? ⟨gb230, 2, none⟩ = some (.int .i64 x4_13) := (blk_cell BK230.out 2).trans rfl; have hfz25_0 := blk_frozen BK230.out 0; have hfz25_1 := blk_frozen BK230.out 1; have hfz25_2 := blk_frozen BK230.out 2; have hcz26_0 : w24.cell? ⟨gb229, 0, none⟩ = some (.int .i64 x230000_4) := (blk_cell BK229.out 0).trans rfl; have hcz26_1 : w24.cell? ⟨gb229, 1, none⟩ = some (.int .i64 x230001_4) := (blk_cell BK229.out 1).trans rfl; have hcz26_2 : w24.cell? ⟨gb229, 2, none⟩ = some (.int .i64 x230002_4) := (blk_cell BK229.out 2).trans rfl; have hfz26_0 := blk_frozen BK229.out 0; have hfz26_1 := blk_frozen BK229.out 1; have hfz26_2 := blk_frozen BK229.out 2))
                                    refine bodyPost_ret (results_ct rfl _ _ gb229 23 #[.int .i64 x5_3, .int .i64 x6_4, .int .i64 x4_13] (0, 0) _ rfl (by (with_reducible repeat (first | refine blk_drewN ?_ _ | refine blk_drew ?_ | refine blk_alloc ?_ _)); refine blk_put (cs := #[.int .i64 x5_3, .int .i64 x6_4, .int .i64 x230002_4]) ?_ 2 _ rfl; (with_reducible repeat (first | refine blk_drewN ?_ _ | refine blk_drew ?_ | refine blk_alloc ?_ _)); refine blk_put (cs := #[.int .i64 x5_3, .int .i64 x230001_4, .int .i64 x230002_4]) ?_ 1 _ rfl; (with_reducible repeat (first | refine blk_drewN ?_ _ | refine blk_drew ?_ | refine blk_alloc ?_ _)); refine blk_put (cs := #[.int .i64 x230000_4, .int .i64 x230001_4, .int .i64 x230002_4]) ?_ 0 _ rfl; (with_reducible repeat (first | refine blk_drewN ?_ _ | refine blk_drew ?_ | refine blk_alloc ?_ _)); exact BK229.out) Tryd.underlying23 rfl (by kernel_rfl)) rfl ?_
                                    exact ⟨by first | rfl | (simp [errW_none, errW_some] <;> rfl) | (simp only [← hji7, ← hji11]; first | rfl | (simp [errW_none, errW_some] <;> rfl)) | (simp [*, errW_none, errW_some] <;> rfl), by repeat (first | (with_reducible first | exact HB.out | apply below_alloc | apply pw_below_drewN | apply below_drew1 | refine below_set ?_ GE229.out | refine below_set ?_ GE230.out) | exact HB.out)⟩
                                  · rw [if_neg c20] at H
                                    have c20b0 : (t231.toList == a0.toList) = false := beq_eq_false_iff_ne.mpr c20
                                    have c20b1 : (t231.toList != a0.toList) = true := bne_iff_ne.mpr c20
                                    have H' := Aside0.mk H
                                    clear H
                                    go_wp2_with (first | ((with_reducible refine gate_dst (N := 7) rfl ?_); (try (refine gate_guard (by rfl) ?_; dsimp only)); refine box_event ?hg (N := 7) ?hd (cs := #[.int .i64 0, .int .i64 0, .int .i64 0]) (t := 23) ?hr ?_; (case hd => rfl); (case hg => rfl); (case hr => first | (go_simp; done) | (go_simp; rfl)); intro gb230 hg w27 hbox hb; have n0_ := Aside0.mk (blk_below (g := gb229) (o := .cells #[.int .i64 x230000_4, .int .i64 x230001_4, .int .i64 x230002_4] 23 (0, 0)) (by (with_reducible repeat (first | refine blk_drewN ?_ _ | refine blk_drew ?_ | refine blk_alloc ?_ _)); exact BK229.out) hb); have n1_ := Aside0.mk (below_step (by repeat (first | (with_reducible first | exact HB.out | apply below_alloc | apply pw_below_drewN | apply below_drew1 | refine below_set ?_ GE229.out) | exact HB.out)) hb); have n2_ := Aside0.mk (hbox); have n3_ := Aside0.mk ((by rw [hg]; exact (below_size (by repeat (first | (with_reducible first | exact HB.out | apply below_alloc | apply pw_below_drewN | apply below_drew1 | refine below_set ?_ GE229.out) | exact HB.out))) : w.heap.size ≤ gb230)); have n4_ := n3_; have n5_ := Aside0.mk ((by rw [hg]; exact Nat.ne_of_lt (blk_lt (g := gb229) (o := .cells #[.int .i64 x230000_4, .int .i64 x230001_4, .int .i64 x230002_4] 23 (0, 0)) (by (with_reducible repeat (first | refine blk_drewN ?_ _ | refine blk_drew ?_ | refine blk_alloc ?_ _)); exact BK229.out)) : gb229 ≠ gb230)); have n6_ := Aside0.mk n5_.out.symm; clear BK229; clear HB; have BK229 := n0_; have HB := n1_; have BK230 := n2_; have GW230 := n3_; have GE230 := n4_; have NB229_230 := n5_; have NB230_229 := n6_; clear n0_ n1_ n2_ n3_ n4_ n5_ n6_; clear hb hbox hg; have hnb28 := NB230_229.out; have hnc28 := NB229_230.out; have hcz29_0 : w27.cell? ⟨gb230, 0, none⟩ = some (.int .i64 0) := (blk_cell BK230.out 0).trans rfl; have hcz29_1 : w27.cell? ⟨gb230, 1, none⟩ = some (.int .i64 0) := (blk_cell BK230.out 1).trans rfl; have hcz29_2 : w27.cell? ⟨gb230, 2, none⟩ = some (.int .i64 0) := (blk_cell BK230.out 2).trans rfl; have hfz29_0 := blk_frozen BK230.out 0; have hfz29_1 := blk_frozen BK230.out 1; have hfz29_2 := blk_frozen BK230.out 2) | ((with_reducible refine gate_callee (f := 19) rfl ?_); refine goesL_ (some 46) rfl rfl Tryd.func19 (by kernel_rfl) rfl #[.agg #[.int .i64 x5_3, .int .i64 x6_4, .int .i64 x4_13]] rfl (by (try simp only [List.map_toArray, List.map_cons, List.map_nil]); first | done | rfl) ?_; (with_reducible refine (partitaref02_Text.calls k4 x5_3 x6_4 x4_13 t231 t232 _ A18.out).mono ?_); rintro e w30 ⟨rfl, hb⟩; refine ⟨_, rfl, ?_⟩; have n0_ := Aside0.mk (blk_below (g := gb229) (o := .cells #[.int .i64 x230000_4, .int .i64 x230001_4, .int .i64 x230002_4] 23 (0, 0)) (by (with_reducible repeat (first | refine blk_drewN ?_ _ | refine blk_drew ?_ | refine blk_alloc ?_ _)); refine blk_far ?_ NB229_230.out _; (with_reducible repeat (first | refine blk_drewN ?_ _ | refine blk_drew ?_ | refine blk_alloc ?_ _)); refine blk_far ?_ NB229_230.out _; (with_reducible repeat (first | refine blk_drewN ?_ _ | refine blk_drew ?_ | refine blk_alloc ?_ _)); refine blk_far ?_ NB229_230.out _; (with_reducible repeat (first | refine blk_drewN ?_ _ | refine blk_drew ?_ | refine blk_alloc ?_ _)); exact BK229.out) hb); have n1_ := Aside0.mk (blk_below (g := gb230) (o := .cells #[.int .i64 x5_3, .int .i64 x6_4, .int .i64 x4_13] 23 (0, 0)) (by (with_reducible repeat (first | refine blk_drewN ?_ _ | refine blk_drew ?_ | refine blk_alloc ?_ _)); refine blk_put (cs := #[.int .i64 x5_3, .int .i64 x6_4, .int .i64 0]) ?_ 2 _ rfl; (with_reducible repeat (first | refine blk_drewN ?_ _ | refine blk_drew ?_ | refine blk_alloc ?_ _)); refine blk_put (cs := #[.int .i64 x5_3, .int .i64 0, .int .i64 0]) ?_ 1 _ rfl; (with_reducible repeat (first | refine blk_drewN ?_ _ | refine blk_drew ?_ | refine blk_alloc ?_ _)); refine blk_put (cs := #[.int .i64 0, .int .i64 0, .int .i64 0]) ?_ 0 _ rfl; (with_reducible repeat (first | refine blk_drewN ?_ _ | refine blk_drew ?_ | refine blk_alloc ?_ _)); exact BK230.out) hb); have n2_ := Aside0.mk (below_step (by repeat (first | (with_reducible first | exact HB.out | apply below_alloc | apply pw_below_drewN | apply below_drew1 | refine below_set ?_ GE229.out | refine below_set ?_ GE230.out) | exact HB.out)) hb); clear BK229; clear BK230; clear HB; have BK229 := n0_; have BK230 := n1_; have HB := n2_; clear n0_ n1_ n2_; (try clear hb); (try clear hb2); (try clear hk); (try clear hi)))
                                    go_roundg k4
                                    case measure => have := HJ1.out; have := HJ13.out; have := HK3.out; have := HK4.out; omega
                                    case rel => exact ⟨(wrap64 (x6_4 + 1)), (x230000_4), (x230001_4), (x230002_4), (by first | rfl | (simp; done) | (simp [*]; done)), H', ⟨by have := HJ1.out; have := HJ13.out; have := HK3.out; have := HK4.out; omega⟩, ⟨by (with_reducible repeat (first | refine blk_drewN ?_ _ | refine blk_drew ?_ | refine blk_alloc ?_ _)); exact BK229.out⟩, ⟨by repeat (first | (with_reducible first | exact HB.out | apply below_alloc | apply pw_below_drewN | apply below_drew1 | refine below_set ?_ GE229.out | refine below_set ?_ GE230.out) | exact HB.out)⟩⟩
                                · rw [if_neg c19] at H
                                  have c19b0 : (t232 == 0) = false := beq_eq_false_iff_ne.mpr c19
                                  have c19b1 : (t232 != 0) = true := bne_iff_ne.mpr c19
                                  have H' := Aside0.mk H
                                  clear H
                                  go_wp2_with (first | ((with_reducible refine gate_dst (N := 7) rfl ?_); (try (refine gate_guard (by rfl) ?_; dsimp only)); refine box_event ?hg (N := 7) ?hd (cs := #[.int .i64 0, .int .i64 0, .int .i64 0]) (t := 23) ?hr ?_; (case hd => rfl); (case hg => rfl); (case hr => first | (go_simp; done) | (go_simp; rfl)); intro gb230 hg w31 hbox hb; have n0_ := Aside0.mk (blk_below (g := gb229) (o := .cells #[.int .i64 x230000_4, .int .i64 x230001_4, .int .i64 x230002_4] 23 (0, 0)) (by (with_reducible repeat (first | refine blk_drewN ?_ _ | refine blk_drew ?_ | refine blk_alloc ?_ _)); exact BK229.out) hb); have n1_ := Aside0.mk (below_step (by repeat (first | (with_reducible first | exact HB.out | apply below_alloc | apply pw_below_drewN | apply below_drew1 | refine below_set ?_ GE229.out) | exact HB.out)) hb); have n2_ := Aside0.mk (hbox); have n3_ := Aside0.mk ((by rw [hg]; exact (below_size (by repeat (first | (with_reducible first | exact HB.out | apply below_alloc | apply pw_below_drewN | apply below_drew1 | refine below_set ?_ GE229.out) | exact HB.out))) : w.heap.size ≤ gb230)); have n4_ := n3_; have n5_ := Aside0.mk ((by rw [hg]; exact Nat.ne_of_lt (blk_lt (g := gb229) (o := .cells #[.int .i64 x230000_4, .int .i64 x230001_4, .int .i64 x230002_4] 23 (0, 0)) (by (with_reducible repeat (first | refine blk_drewN ?_ _ | refine blk_drew ?_ | refine blk_alloc ?_ _)); exact BK229.out)) : gb229 ≠ gb230)); have n6_ := Aside0.mk n5_.out.symm; clear BK229; clear HB; have BK229 := n0_; have HB := n1_; have BK230 := n2_; have GW230 := n3_; have GE230 := n4_; have NB229_230 := n5_; have NB230_229 := n6_; clear n0_ n1_ n2_ n3_ n4_ n5_ n6_; clear hb hbox hg; have hnb32 := NB230_229.out; have hnc32 := NB229_230.out; have hcz33_0 : w31.cell? ⟨gb230, 0, none⟩ = some (.int .i64 0) := (blk_cell BK230.out 0).trans rfl; have hcz33_1 : w31.cell? ⟨gb230, 1, none⟩ = some (.int .i64 0) := (blk_cell BK230.out 1).trans rfl; have hcz33_2 : w31.cell? ⟨gb230, 2, none⟩ = some (.int .i64 0) := (blk_cell BK230.out 2).trans rfl; have hfz33_0 := blk_frozen BK230.out 0; have hfz33_1 := blk_frozen BK230.out 1; have hfz33_2 := blk_frozen BK230.out 2) | ((with_reducible refine gate_callee (f := 19) rfl ?_); refine goesL_ (some 46) rfl rfl Tryd.func19 (by kernel_rfl) rfl #[.agg #[.int .i64 x5_3, .int .i64 x6_4, .int .i64 x4_13]] rfl (by (try simp only [List.map_toArray, List.map_cons, List.map_nil]); first | done | rfl) ?_; (with_reducible refine (partitaref02_Text.calls k4 x5_3 x6_4 x4_13 t231 t232 _ A18.out).mono ?_); rintro e w34 ⟨rfl, hb⟩; refine ⟨_, rfl, ?_⟩; have n0_ := Aside0.mk (blk_below (g := gb229) (o := .cells #[.int .i64 x230000_4, .int .i64 x230001_4, .int .i64 x230002_4] 23 (0, 0)) (by (with_reducible repeat (first | refine blk_drewN ?_ _ | refine blk_drew ?_ | refine blk_alloc ?_ _)); refine blk_far ?_ NB229_230.out _; (with_reducible repeat (first | refine blk_drewN ?_ _ | refine blk_drew ?_ | refine blk_alloc ?_ _)); refine blk_far ?_ NB229_230.out _; (with_reducible repeat (first | refine blk_drewN ?_ _ | refine blk_drew ?_ | refine blk_alloc ?_ _)); refine blk_far ?_ NB229_230.out _; (with_reducible repeat (first | refine blk_drewN ?_ _ | refine blk_drew ?_ | refine blk_alloc ?_ _)); exact BK229.out) hb); have n1_ := Aside0.mk (blk_below (g := gb230) (o := .cells #[.int .i64 x5_3, .int .i64 x6_4, .int .i64 x4_13] 23 (0, 0)) (by (with_reducible repeat (first | refine blk_drewN ?_ _ | refine blk_drew ?_ | refine blk_alloc ?_ _)); refine blk_put (cs := #[.int .i64 x5_3, .int .i64 x6_4, .int .i64 0]) ?_ 2 _ rfl; (with_reducible repeat (first | refine blk_drewN ?_ _ | refine blk_drew ?_ | refine blk_alloc ?_ _)); refine blk_put (cs := #[.int .i64 x5_3, .int .i64 0, .int .i64 0]) ?_ 1 _ rfl; (with_reducible repeat (first | refine blk_drewN ?_ _ | refine blk_drew ?_ | refine blk_alloc ?_ _)); refine blk_put (cs := #[.int .i64 0, .int .i64 0, .int .i64 0]) ?_ 0 _ rfl; (with_reducible repeat (first | refine blk_drewN ?_ _ | refine blk_drew ?_ | refine blk_alloc ?_ _)); exact BK230.out) hb); have n2_ := Aside0.mk (below_step (by repeat (first | (with_reducible first | exact HB.out | apply below_alloc | apply pw_below_drewN | apply below_drew1 | refine below_set ?_ GE229.out | refine below_set ?_ GE230.out) | exact HB.out)) hb); clear BK229; clear BK230; clear HB; have BK229 := n0_; have BK230 := n1_; have HB := n2_; clear n0_ n1_ n2_; (try clear hb); (try clear hb2); (try clear hk); (try clear hi)))
                                  go_roundg k4
                                  case measure => have := HJ1.out; have := HJ13.out; have := HK3.out; have := HK4.out; omega
                                  case rel => exact ⟨(wrap64 (x6_4 + 1)), (x230000_4), (x230001_4), (x230002_4), (by first | rfl | (simp; done) | (simp [*]; done)), H', ⟨by have := HJ1.out; have := HJ13.out; have := HK3.out; have := HK4.out; omega⟩, ⟨by (with_reducible repeat (first | refine blk_drewN ?_ _ | refine blk_drew ?_ | refine blk_alloc ?_ _)); exact BK229.out⟩, ⟨by repeat (first | (with_reducible first | exact HB.out | apply below_alloc | apply pw_below_drewN | apply below_drew1 | refine below_set ?_ GE229.out | refine below_set ?_ GE230.out) | exact HB.out)⟩⟩
                              · rw [if_neg c17] at H
                                have c17b0 : decide (x6_4 ≤ 2) = false := decide_eq_false c17
                                clear c17
                                have H' := Aside0.mk H
                                clear H
                                go_wp2
                                go_roundg k4
                                case measure => have := HJ1.out; have := HJ13.out; have := HK3.out; have := HK4.out; omega
                                case rel => exact ⟨(wrap64 (x5_3 + 1)), (x230000_4), (x230001_4), (x230002_4), (by first | rfl | (simp; done) | (simp [*]; done)), H', ⟨by have := HJ1.out; have := HJ13.out; have := HK3.out; have := HK4.out; omega⟩, ⟨by (with_reducible repeat (first | refine blk_drewN ?_ _ | refine blk_drew ?_ | refine blk_alloc ?_ _)); exact BK229.out⟩, ⟨by repeat (first | (with_reducible first | exact HB.out | apply below_alloc | apply pw_below_drewN | apply below_drew1 | refine below_set ?_ GE229.out) | exact HB.out)⟩⟩
                        · rw [if_neg c16] at H
                          have c16b0 : decide (x5_3 < 7) = false := decide_eq_false c16
                          clear c16
                          simp only [Option.some.injEq, Prod.mk.injEq] at H
                          obtain ⟨rfl, rfl, rfl, rfl⟩ := H
                          have hcz35_0 : wr.cell? ⟨gb229, 0, none⟩ = some (.int .i64 x230000_3) := (blk_cell BK229.out 0).trans rfl
                          have hcz35_1 : wr.cell? ⟨gb229, 1, none⟩ = some (.int .i64 x230001_3) := (blk_cell BK229.out 1).trans rfl
                          have hcz35_2 : wr.cell? ⟨gb229, 2, none⟩ = some (.int .i64 x230002_3) := (blk_cell BK229.out 2).trans rfl
                          have hfz35_0 := blk_frozen BK229.out 0
                          have hfz35_1 := blk_frozen BK229.out 1
                          have hfz35_2 := blk_frozen BK229.out 2
                          go_wp2
                          refine bodyPost_ret (results_ct rfl _ _ gb229 23 #[.int .i64 0, .int .i64 0, .int .i64 0] (0, 0) _ rfl (by (with_reducible repeat (first | refine blk_drewN ?_ _ | refine blk_drew ?_ | refine blk_alloc ?_ _)); refine blk_put (cs := #[.int .i64 0, .int .i64 0, .int .i64 x230002_3]) ?_ 2 _ rfl; (with_reducible repeat (first | refine blk_drewN ?_ _ | refine blk_drew ?_ | refine blk_alloc ?_ _)); refine blk_put (cs := #[.int .i64 0, .int .i64 x230001_3, .int .i64 x230002_3]) ?_ 1 _ rfl; (with_reducible repeat (first | refine blk_drewN ?_ _ | refine blk_drew ?_ | refine blk_alloc ?_ _)); refine blk_put (cs := #[.int .i64 x230000_3, .int .i64 x230001_3, .int .i64 x230002_3]) ?_ 0 _ rfl; (with_reducible repeat (first | refine blk_drewN ?_ _ | refine blk_drew ?_ | refine blk_alloc ?_ _)); exact BK229.out) Tryd.underlying23 rfl (by kernel_rfl)) rfl ?_
                          exact ⟨by first | rfl | (simp [errW_none, errW_some] <;> rfl) | (simp only [← hji7, ← hji11]; first | rfl | (simp [errW_none, errW_some] <;> rfl)) | (simp [*, errW_none, errW_some] <;> rfl), by repeat (first | (with_reducible first | exact HB.out | apply below_alloc | apply pw_below_drewN | apply below_drew1 | refine below_set ?_ GE229.out) | exact HB.out)⟩
              · rw [if_neg c13] at H
                exact absurd H (by simp)
            · rw [if_neg c12] at H
              exact absurd H (by simp)
          · rw [if_neg c9] at H
            exact absurd H (by simp)
        · rw [if_neg c8] at H
          exact absurd H (by simp)

end Go.Proofs.YtnpinngdiipogaaDoor.M
