-- Written by wip/mprint.py, this session's own program, over the translation. Lean checks it.
import Derived.Test.YtaanbojalolhnaaDoorM0
import Derived.Test.YtaanbojalolhnaaDoorM1
import Derived.Test.YtaanbojalolhnaaDoorM9
import Derived.Test.YtaanbojalolhnaaDoorM15
import Derived.Test.YtaanbojalolhnaaDoorGSpell
namespace Go.Proofs.YtaanbojalolhnaaDoor.M
open Go.RowKit Go.Proofs.YtaanbojalolhnaaDoorW.PrintWords Go.Proofs.YtaanbojalolhnaaDoorW.PrintLast Go.Proofs.YtaanbojalolhnaaDoorW.PrintMore
attribute [local go_sem] max2_int min2_int max_two min_two max_three min_three max_four min_four   -- for this text's walks alone
set_option linter.unusedVariables false
set_option linter.unusedSimpArgs false

attribute [local go_sem high] eqA34
/-! ### partitalaw03_KeySpells: function 4 -/
def partitalaw03_KeySpells.f (k : Nat) (a0_0 : Int) (a0_1 : Bool) (a1 : Int) : Option (Bool) := (partitalaw03_awake.f k).bind fun t206 => ((key_Spell.f a0_0 a0_1 a1).bind fun bt207 => ((partitaref03_Spell.f k a0_0 a0_1 a1).bind fun bt212 => (if t206 = true then (if (bt207.1 == bt212.1 && (bt207.2.1 == bt212.2.1 && (bt207.2.2.1 == bt212.2.2.1))) = true then (some (bt207.2.2.2 == bt212.2.2.2)) else (some false)) else (some false))))
theorem partitalaw03_KeySpells.mono : ∀ a0 a1 a2 k, LeO (partitalaw03_KeySpells.f k a0 a1 a2) (partitalaw03_KeySpells.f (k + 1) a0 a1 a2) := by
  intro a0 a1 a2 k
  unfold partitalaw03_KeySpells.f
  repeat' first
      | (with_reducible exact partitalaw03_awake.mono _)
      | (with_reducible exact partitaref03_Spell.mono _ _ _ _)
      | (with_reducible exact LeO.refl _)
      | (with_reducible exact LeO.none _)
      | (with_reducible refine LeO.ite ?_ ?_)
      | (with_reducible refine LeO.bind ?_ (fun _ => ?_))
      | exact partitalaw03_awake.mono _
      | exact partitaref03_Spell.mono _ _ _ _
      | exact LeO.none _
      | refine LeO.ite ?_ ?_
      | refine LeO.bind ?_ (fun _ => ?_)
set_option maxHeartbeats 8000000 in
set_option maxRecDepth 100000 in
theorem partitalaw03_KeySpells.calls (k : Nat) (a0_0 : Int) (a0_1 : Bool) (a1 : Int) (r : Bool) (w : World) (hr_ : r = true) (hG_ : GW w) (h : partitalaw03_KeySpells.f k a0_0 a0_1 a1 = some r) :
    Calls Tryd.prog 4 #[.agg #[.int .i64 a0_0, .bool a0_1], .int .i64 a1] w fun e w' => e = .returned (.bool r) ∧ Below w.heap.size w w' := by
  have hu23 := Tryd.underlying23
  have hu34 := Tryd.underlying34
  have HB := Aside0.mk (Below.refl w.heap.size w)
  have HR_ := Aside0.mk hr_
  clear hr_
  have HG_ := Aside0.mk hG_
  clear hG_
  have H : ((partitalaw03_awake.f k).bind fun t206 => ((key_Spell.f a0_0 a0_1 a1).bind fun bt207 => ((partitaref03_Spell.f k a0_0 a0_1 a1).bind fun bt212 => (if t206 = true then (if (bt207.1 == bt212.1 && (bt207.2.1 == bt212.2.1 && (bt207.2.2.1 == bt212.2.2.1))) = true then (some (bt207.2.2.2 == bt212.2.2.2)) else (some false)) else (some false))))) = some r := h
  clear h
  replace H := Option.bind_eq_some_iff.mp H
  obtain ⟨t206, A30, H⟩ := H
  replace H : ((key_Spell.f a0_0 a0_1 a1).bind fun bt207 => ((partitaref03_Spell.f k a0_0 a0_1 a1).bind fun bt212 => (if t206 = true then (if (bt207.1 == bt212.1 && (bt207.2.1 == bt212.2.1 && (bt207.2.2.1 == bt212.2.2.1))) = true then (some (bt207.2.2.2 == bt212.2.2.2)) else (some false)) else (some false)))) = some r := H
  have A3 := Aside0.mk A30
  clear A30
  replace H := Option.bind_eq_some_iff.mp H
  obtain ⟨⟨t207, t208, t209, t210⟩, A40, H⟩ := H
  replace H : ((partitaref03_Spell.f k a0_0 a0_1 a1).bind fun bt212 => (if t206 = true then (if (t207 == bt212.1 && (t208 == bt212.2.1 && (t209 == bt212.2.2.1))) = true then (some (t210 == bt212.2.2.2)) else (some false)) else (some false))) = some r := H
  have A4 := Aside0.mk A40
  clear A40
  replace H := Option.bind_eq_some_iff.mp H
  obtain ⟨⟨t212, t213, t214, t215⟩, A50, H⟩ := H
  replace H : (if t206 = true then (if (t207 == t212 && (t208 == t213 && (t209 == t214))) = true then (some (t210 == t215)) else (some false)) else (some false)) = some r := H
  have A5 := Aside0.mk A50
  clear A50
  by_cases c6 : t206 = true
  · subst c6
    have H1 : (if (t207 == t212 && (t208 == t213 && (t209 == t214))) = true then (some (t210 == t215)) else (some false)) = some r := by rw [if_pos rfl] at H; exact H
    clear H
    have H := H1
    clear H1
    by_cases c7 : (t207 == t212 && (t208 == t213 && (t209 == t214))) = true
    · rw [if_pos c7] at H
      have c7b0 : (t207 == t212 && (t208 == t213 && (t209 == t214))) = true := c7
      (try (have c7b1 : decide (t207 = t212 && (t208 == t213 && (t209 == t214))) = true := by simpa using c7))
      (try (have c7b2 : (t207 == t212 && (t208 == t213 && (t209 == t214))) = true := by simpa using c7))
      clear c7
      obtain rfl := Option.some.inj H
      go_enter Tryd.func4, Tryd.ntmps4
      go_wp2_with (first | ((with_reducible refine gate_dst (N := 2) rfl ?_); refine box_event ?hg (N := 2) ?hd (cs := #[.int .i64 a0_0, .bool a0_1]) (t := 23) ?hr ?_; (case hd => rfl); (case hg => rfl); (case hr => first | (go_simp; done) | (go_simp; rfl)); intro gb205 hg w8 hbox hb; have n0_ := Aside0.mk (below_step (by repeat (first | (with_reducible first | exact HB.out | apply below_alloc | apply pw_below_drewN | apply below_drew1) | exact HB.out)) hb); have n1_ := Aside0.mk (hbox); have n2_ := Aside0.mk ((by rw [hg]; exact (below_size (by repeat (first | (with_reducible first | exact HB.out | apply below_alloc | apply pw_below_drewN | apply below_drew1) | exact HB.out))) : w.heap.size ≤ gb205)); have n3_ := n2_; clear HB; have HB := n0_; have BK205 := n1_; have GW205 := n2_; have GE205 := n3_; clear n0_ n1_ n2_ n3_; clear hb hbox hg) | ((with_reducible refine gate_callee (f := 5) rfl ?_); refine goesL_ (some 10) rfl rfl Tryd.func5 (by kernel_rfl) rfl #[] rfl (by (try simp only [List.map_toArray, List.map_cons, List.map_nil]); first | done | rfl) ?_; (with_reducible refine (partitalaw03_awake.calls k  true _ A3.out).mono ?_); rintro e w9 ⟨rfl, hb⟩; refine ⟨_, rfl, ?_⟩; have n0_ := Aside0.mk (blk_below (g := gb205) (o := .cells #[.int .i64 a0_0, .bool a0_1] 23 (0, 0)) (by (with_reducible repeat (first | refine blk_drewN ?_ _ | refine blk_drew ?_ | refine blk_alloc ?_ _)); exact BK205.out) hb); have n1_ := Aside0.mk (below_step (by repeat (first | (with_reducible first | exact HB.out | apply below_alloc | apply pw_below_drewN | apply below_drew1 | refine below_set ?_ GE205.out) | exact HB.out)) hb); clear BK205; clear HB; have BK205 := n0_; have HB := n1_; clear n0_ n1_; (try clear hb); (try clear hb2); (try clear hk); (try clear hi); have hcz10_0 : w9.cell? ⟨gb205, 0, none⟩ = some (.int .i64 a0_0) := (blk_cell BK205.out 0).trans rfl; have hcz10_1 : w9.cell? ⟨gb205, 1, none⟩ = some (.bool a0_1) := (blk_cell BK205.out 1).trans rfl; have hfz10_0 := blk_frozen BK205.out 0; have hfz10_1 := blk_frozen BK205.out 1) | ((with_reducible refine gate_callee (f := 9) rfl ?_); refine goesL_ (some 14) rfl rfl Tryd.func9 (by kernel_rfl) rfl #[.agg #[.int .i64 a0_0, .bool a0_1], .int .i64 a1] rfl (by (try simp only [List.map_toArray, List.map_cons, List.map_nil]); first | done | rfl) ?_; (with_reducible refine (key_Spell.calls a0_0 a0_1 a1 t207 t208 t209 t210 _ ?side1 A4.out).mono ?_); (case side1 => exact GW.step HG_.out (by repeat (first | (with_reducible first | exact HB.out | apply below_alloc | apply pw_below_drewN | apply below_drew1 | refine below_set ?_ GE205.out) | exact HB.out))); rintro e w11 ⟨rfl, hb⟩; refine ⟨_, rfl, ?_⟩; have n0_ := Aside0.mk (blk_below (g := gb205) (o := .cells #[.int .i64 a0_0, .bool a0_1] 23 (0, 0)) (by (with_reducible repeat (first | refine blk_drewN ?_ _ | refine blk_drew ?_ | refine blk_alloc ?_ _)); exact BK205.out) hb); have n1_ := Aside0.mk (below_step (by repeat (first | (with_reducible first | exact HB.out | apply below_alloc | apply pw_below_drewN | apply below_drew1 | refine below_set ?_ GE205.out) | exact HB.out)) hb); clear BK205; clear HB; have BK205 := n0_; have HB := n1_; clear n0_ n1_; (try clear hb); (try clear hb2); (try clear hk); (try clear hi)) | ((with_reducible refine gate_dst (N := 6) rfl ?_); refine box_event ?hg (N := 6) ?hd (cs := #[.int .i64 0, .int .i64 0, .int .i64 0]) (t := 34) ?hr ?_; (case hd => rfl); (case hg => rfl); (case hr => first | (go_simp; done) | (go_simp; rfl)); intro gb211 hg w12 hbox hb; have n0_ := Aside0.mk (blk_below (g := gb205) (o := .cells #[.int .i64 a0_0, .bool a0_1] 23 (0, 0)) (by (with_reducible repeat (first | refine blk_drewN ?_ _ | refine blk_drew ?_ | refine blk_alloc ?_ _)); exact BK205.out) hb); have n1_ := Aside0.mk (below_step (by repeat (first | (with_reducible first | exact HB.out | apply below_alloc | apply pw_below_drewN | apply below_drew1 | refine below_set ?_ GE205.out) | exact HB.out)) hb); have n2_ := Aside0.mk (hbox); have n3_ := Aside0.mk ((by rw [hg]; exact (below_size (by repeat (first | (with_reducible first | exact HB.out | apply below_alloc | apply pw_below_drewN | apply below_drew1 | refine below_set ?_ GE205.out) | exact HB.out))) : w.heap.size ≤ gb211)); have n4_ := n3_; have n5_ := Aside0.mk ((by rw [hg]; exact Nat.ne_of_lt (blk_lt (g := gb205) (o := .cells #[.int .i64 a0_0, .bool a0_1] 23 (0, 0)) (by (with_reducible repeat (first | refine blk_drewN ?_ _ | refine blk_drew ?_ | refine blk_alloc ?_ _)); exact BK205.out)) : gb205 ≠ gb211)); have n6_ := Aside0.mk n5_.out.symm; clear BK205; clear HB; have BK205 := n0_; have HB := n1_; have BK211 := n2_; have GW211 := n3_; have GE211 := n4_; have NB205_211 := n5_; have NB211_205 := n6_; clear n0_ n1_ n2_ n3_ n4_ n5_ n6_; clear hb hbox hg; have hnb13 := NB211_205.out; have hnc13 := NB205_211.out; have hcz14_0 : w12.cell? ⟨gb211, 0, none⟩ = some (.int .i64 0) := (blk_cell BK211.out 0).trans rfl; have hcz14_1 : w12.cell? ⟨gb211, 1, none⟩ = some (.int .i64 0) := (blk_cell BK211.out 1).trans rfl; have hcz14_2 : w12.cell? ⟨gb211, 2, none⟩ = some (.int .i64 0) := (blk_cell BK211.out 2).trans rfl; have hfz14_0 := blk_frozen BK211.out 0; have hfz14_1 := blk_frozen BK211.out 1; have hfz14_2 := blk_frozen BK211.out 2; have hcz15_0 : w12.cell? ⟨gb205, 0, none⟩ = some (.int .i64 a0_0) := (blk_cell BK205.out 0).trans rfl; have hcz15_1 : w12.cell? ⟨gb205, 1, none⟩ = some (.bool a0_1) := (blk_cell BK205.out 1).trans rfl; have hfz15_0 := blk_frozen BK205.out 0; have hfz15_1 := blk_frozen BK205.out 1) | ((with_reducible refine gate_callee (f := 10) rfl ?_); refine goesL_ (some 20) rfl rfl Tryd.func10 (by kernel_rfl) rfl #[.agg #[.int .i64 a0_0, .bool a0_1], .int .i64 a1] rfl (by (try simp only [List.map_toArray, List.map_cons, List.map_nil]); first | done | rfl) ?_; (with_reducible refine (partitaref03_Spell.calls k a0_0 a0_1 a1 t212 t213 t214 t215 _ A5.out).mono ?_); rintro e w16 ⟨rfl, hb⟩; refine ⟨_, rfl, ?_⟩; have n0_ := Aside0.mk (blk_below (g := gb205) (o := .cells #[.int .i64 a0_0, .bool a0_1] 23 (0, 0)) (by (with_reducible repeat (first | refine blk_drewN ?_ _ | refine blk_drew ?_ | refine blk_alloc ?_ _)); refine blk_far ?_ NB205_211.out _; (with_reducible repeat (first | refine blk_drewN ?_ _ | refine blk_drew ?_ | refine blk_alloc ?_ _)); refine blk_far ?_ NB205_211.out _; (with_reducible repeat (first | refine blk_drewN ?_ _ | refine blk_drew ?_ | refine blk_alloc ?_ _)); refine blk_far ?_ NB205_211.out _; (with_reducible repeat (first | refine blk_drewN ?_ _ | refine blk_drew ?_ | refine blk_alloc ?_ _)); exact BK205.out) hb); have n1_ := Aside0.mk (blk_below (g := gb211) (o := .cells #[.int .i64 t207, .int .i64 t208, .int .i64 t209] 34 (0, 0)) (by (with_reducible repeat (first | refine blk_drewN ?_ _ | refine blk_drew ?_ | refine blk_alloc ?_ _)); refine blk_put (cs := #[.int .i64 t207, .int .i64 t208, .int .i64 0]) ?_ 2 _ rfl; (with_reducible repeat (first | refine blk_drewN ?_ _ | refine blk_drew ?_ | refine blk_alloc ?_ _)); refine blk_put (cs := #[.int .i64 t207, .int .i64 0, .int .i64 0]) ?_ 1 _ rfl; (with_reducible repeat (first | refine blk_drewN ?_ _ | refine blk_drew ?_ | refine blk_alloc ?_ _)); refine blk_put (cs := #[.int .i64 0, .int .i64 0, .int .i64 0]) ?_ 0 _ rfl; (with_reducible repeat (first | refine blk_drewN ?_ _ | refine blk_drew ?_ | refine blk_alloc ?_ _)); exact BK211.out) hb); have n2_ := Aside0.mk (below_step (by repeat (first | (with_reducible first | exact HB.out | apply below_alloc | apply pw_below_drewN | apply below_drew1 | refine below_set ?_ GE205.out | refine below_set ?_ GE211.out) | exact HB.out)) hb); clear BK205; clear BK211; clear HB; have BK205 := n0_; have BK211 := n1_; have HB := n2_; clear n0_ n1_ n2_; (try clear hb); (try clear hb2); (try clear hk); (try clear hi)) | ((with_reducible refine gate_dst (N := 8) rfl ?_); refine box_event ?hg (N := 8) ?hd (cs := #[.int .i64 0, .int .i64 0, .int .i64 0]) (t := 34) ?hr ?_; (case hd => rfl); (case hg => rfl); (case hr => first | (go_simp; done) | (go_simp; rfl)); intro gb216 hg w17 hbox hb; have n0_ := Aside0.mk (blk_below (g := gb205) (o := .cells #[.int .i64 a0_0, .bool a0_1] 23 (0, 0)) (by (with_reducible repeat (first | refine blk_drewN ?_ _ | refine blk_drew ?_ | refine blk_alloc ?_ _)); exact BK205.out) hb); have n1_ := Aside0.mk (blk_below (g := gb211) (o := .cells #[.int .i64 t207, .int .i64 t208, .int .i64 t209] 34 (0, 0)) (by (with_reducible repeat (first | refine blk_drewN ?_ _ | refine blk_drew ?_ | refine blk_alloc ?_ _)); exact BK211.out) hb); have n2_ := Aside0.mk (below_step (by repeat (first | (with_reducible first | exact HB.out | apply below_alloc | apply pw_below_drewN | apply below_drew1 | refine below_set ?_ GE205.out | refine below_set ?_ GE211.out) | exact HB.out)) hb); have n3_ := Aside0.mk (hbox); have n4_ := Aside0.mk ((by rw [hg]; exact (below_size (by repeat (first | (with_reducible first | exact HB.out | apply below_alloc | apply pw_below_drewN | apply below_drew1 | refine below_set ?_ GE205.out | refine below_set ?_ GE211.out) | exact HB.out))) : w.heap.size ≤ gb216)); have n5_ := n4_; have n6_ := Aside0.mk ((by rw [hg]; exact Nat.ne_of_lt (blk_lt (g := gb205) (o := .cells #[.int .i64 a0_0, .bool a0_1] 23 (0, 0)) (by (with_reducible repeat (first | refine blk_drewN ?_ _ | refine blk_drew ?_ | refine blk_alloc ?_ _)); exact BK205.out)) : gb205 ≠ gb216)); have n7_ := Aside0.mk n6_.out.symm; have n8_ := Aside0.mk ((by rw [hg]; exact Nat.ne_of_lt (blk_lt (g := gb211) (o := .cells #[.int .i64 t207, .int .i64 t208, .int .i64 t209] 34 (0, 0)) (by (with_reducible repeat (first | refine blk_drewN ?_ _ | refine blk_drew ?_ | refine blk_alloc ?_ _)); exact BK211.out)) : gb211 ≠ gb216)); have n9_ := Aside0.mk n8_.out.symm; clear BK205; clear BK211; clear HB; have BK205 := n0_; have BK211 := n1_; have HB := n2_; have BK216 := n3_; have GW216 := n4_; have GE216 := n5_; have NB205_216 := n6_; have NB216_205 := n7_; have NB211_216 := n8_; have NB216_211 := n9_; clear n0_ n1_ n2_ n3_ n4_ n5_ n6_ n7_ n8_ n9_; clear hb hbox hg; have hnb18 := NB216_205.out; have hnc18 := NB205_216.out; have hnb19 := NB216_211.out; have hnc19 := NB211_216.out; have hcz20_0 : w17.cell? ⟨gb216, 0, none⟩ = some (.int .i64 0) := (blk_cell BK216.out 0).trans rfl; have hcz20_1 : w17.cell? ⟨gb216, 1, none⟩ = some (.int .i64 0) := (blk_cell BK216.out 1).trans rfl; have hcz20_2 : w17.cell? ⟨gb216, 2, none⟩ = some (.int .i64 0) := (blk_cell BK216.out 2).trans rfl; have hfz20_0 := blk_frozen BK216.out 0; have hfz20_1 := blk_frozen BK216.out 1; have hfz20_2 := blk_frozen BK216.out 2; have hcz21_0 : w17.cell? ⟨gb211, 0, none⟩ = some (.int .i64 t207) := (blk_cell BK211.out 0).trans rfl; have hcz21_1 : w17.cell? ⟨gb211, 1, none⟩ = some (.int .i64 t208) := (blk_cell BK211.out 1).trans rfl; have hcz21_2 : w17.cell? ⟨gb211, 2, none⟩ = some (.int .i64 t209) := (blk_cell BK211.out 2).trans rfl; have hfz21_0 := blk_frozen BK211.out 0; have hfz21_1 := blk_frozen BK211.out 1; have hfz21_2 := blk_frozen BK211.out 2))
      go_ret
      exact ⟨by first | rfl | (simp [errW_none, errW_some] <;> rfl) | (simp [*, errW_none, errW_some] <;> rfl), by repeat (first | (with_reducible first | exact HB.out | apply below_alloc | apply pw_below_drewN | apply below_drew1 | refine below_set ?_ GE205.out | refine below_set ?_ GE211.out | refine below_set ?_ GE216.out) | exact HB.out)⟩
    · rw [if_neg c7] at H
      have c7b0 : (t207 == t212 && (t208 == t213 && (t209 == t214))) = false := by simpa using c7
      (try (have c7b1 : decide (t207 = t212 && (t208 == t213 && (t209 == t214))) = false := by simpa using c7))
      (try (have c7b2 : (t207 == t212 && (t208 == t213 && (t209 == t214))) = false := by simpa using c7))
      (try (have c7b3 : ¬ (t207 = t212 && (t208 == t213 && (t209 == t214))) := by simpa using c7))
      clear c7
      exact absurd H (by rw [HR_.out]; simp)
  · replace c6 := Bool.eq_false_iff.mpr c6
    subst c6
    have H1 : (some false) = some r := by rw [if_neg (show ¬ (false = true) by decide)] at H; exact H
    clear H
    have H := H1
    clear H1
    exact absurd H (by rw [HR_.out]; simp)

/-- THE ONE PURE STATEMENT of partitalaw03_KeySpells: yours. -/
def partitalaw03_KeySpells.Pure : Prop := ∀ (a0_0 : Int) (a0_1 : Bool) (a1 : Int), (Lit.int .i64 a0_0).wf = true → (Lit.int .i64 a1).wf = true → ∃ k, partitalaw03_KeySpells.f k a0_0 a0_1 a1 = some true
theorem partitalaw03_KeySpells.walk (P : partitalaw03_KeySpells.Pure) (a0_0 : Int) (a0_1 : Bool) (a1 : Int) (w : World) (hG_ : GW w) (w0_0 : (Lit.int .i64 a0_0).wf = true) (w1 : (Lit.int .i64 a1).wf = true) :
    Calls Tryd.prog 4 #[.agg #[.int .i64 a0_0, .bool a0_1], .int .i64 a1] w fun e w' => e = .returned (.bool true) ∧ Below w.heap.size w w' := by
  obtain ⟨k, h⟩ := P a0_0 a0_1 a1 w0_0 w1
  refine (partitalaw03_KeySpells.calls k a0_0 a0_1 a1 true w rfl hG_ h).mono ?_
  rintro e w' ⟨rfl, hd⟩
  exact ⟨rfl, hd⟩

end Go.Proofs.YtaanbojalolhnaaDoor.M
