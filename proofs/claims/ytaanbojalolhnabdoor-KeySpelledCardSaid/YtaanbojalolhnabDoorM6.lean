-- Written by wip/mprint.py, this session's own program, over the translation. Lean checks it.
import Derived.Test.YtaanbojalolhnabDoorM0
import Derived.Test.YtaanbojalolhnabDoorM2
import Derived.Test.YtaanbojalolhnabDoorGRepeat
namespace Go.Proofs.YtaanbojalolhnabDoor.M
open Go.RowKit Go.Proofs.YtaanbojalolhnabDoorW.PrintWords Go.Proofs.YtaanbojalolhnabDoorW.PrintLast Go.Proofs.YtaanbojalolhnabDoorW.PrintMore
attribute [local go_sem] max2_int min2_int max_two min_two max_three min_three max_four min_four   -- for this text's walks alone
set_option linter.unusedVariables false
set_option linter.unusedSimpArgs false

/-! ### key_name: function 19 -/
def key_name.f (a0_0 : Int) (a0_1 : Bool) : Option (ByteArray) := (key_tonic.f a0_0 a0_1).bind fun bt132 => (if 0 ≤ bt132.1 then (if bt132.1 ≤ (wrap64 (bt132.1 + 1)) then (if (wrap64 (bt132.1 + 1)) ≤ 7 then ((strings_Repeat.f (⟨#[35]⟩ : ByteArray) (mx bt132.2 0)).bind fun t135 => ((strings_Repeat.f (⟨#[98]⟩ : ByteArray) (mx (wrap64 (-bt132.2)) 0)).bind fun t136 => (if t135.size + t136.size ≤ 9223372036854775807 then (if ((⟨#[67, 68, 69, 70, 71, 65, 66]⟩ : ByteArray).extract (bt132.1 : Int).toNat ((wrap64 (bt132.1 + 1)) : Int).toNat).size + (t135 ++ t136).size ≤ 9223372036854775807 then (if a0_1 = true then (if (((⟨#[67, 68, 69, 70, 71, 65, 66]⟩ : ByteArray).extract (bt132.1 : Int).toNat ((wrap64 (bt132.1 + 1)) : Int).toNat) ++ (t135 ++ t136)).size + 6 ≤ 9223372036854775807 then (some ((((⟨#[67, 68, 69, 70, 71, 65, 66]⟩ : ByteArray).extract (bt132.1 : Int).toNat ((wrap64 (bt132.1 + 1)) : Int).toNat) ++ (t135 ++ t136)) ++ (⟨#[32, 109, 105, 110, 111, 114]⟩ : ByteArray))) else (none)) else (if (((⟨#[67, 68, 69, 70, 71, 65, 66]⟩ : ByteArray).extract (bt132.1 : Int).toNat ((wrap64 (bt132.1 + 1)) : Int).toNat) ++ (t135 ++ t136)).size + 6 ≤ 9223372036854775807 then (some ((((⟨#[67, 68, 69, 70, 71, 65, 66]⟩ : ByteArray).extract (bt132.1 : Int).toNat ((wrap64 (bt132.1 + 1)) : Int).toNat) ++ (t135 ++ t136)) ++ (⟨#[32, 109, 97, 106, 111, 114]⟩ : ByteArray))) else (none))) else (none)) else (none)))) else (none)) else (none)) else (none))
def key_name.T3 : Bool × List (List Nat × List Nat) := (true, [([], []), ([], []), ([1], [1]), ([2], [2]), ([3], [3]), ([], []), ([5], [5]), ([6], [6]), ([7], [7]), ([8, 4], [8]), ([4, 9], [4, 9]), ([0, 10], [0, 10]), ([11, 9, 0, 1, 2, 3, 4, 5, 6, 7, 8, 9, 10, 11], [0, 11])])
def key_name.B3 : List Nat := [0, 0, 2, 6, 14, 0, 32, 96, 224, 510, 1022, 2047, 4095]
theorem key_name.tab3 : rtab .any (opsOf Tryd.f19 3) = key_name.T3 := by kernel_rfl
theorem key_name.bits3 : waitsOk key_name.T3.2 key_name.B3 = true := by kernel_rfl
set_option maxHeartbeats 8000000 in
set_option maxRecDepth 100000 in
theorem key_name.calls (a0_0 : Int) (a0_1 : Bool) (r : ByteArray) (w : World) (h : key_name.f a0_0 a0_1 = some r) :
    Calls Tryd.prog 19 #[.agg #[.int .i64 a0_0, .bool a0_1]] w fun e w' => e = .returned (.string r) ∧ Below w.heap.size w w' := by
  have hu23 := Tryd.underlying23
  have hu49 := Tryd.underlying49
  have HB := Aside0.mk (Below.refl w.heap.size w)
  have H : ((key_tonic.f a0_0 a0_1).bind fun bt132 => (if 0 ≤ bt132.1 then (if bt132.1 ≤ (wrap64 (bt132.1 + 1)) then (if (wrap64 (bt132.1 + 1)) ≤ 7 then ((strings_Repeat.f (⟨#[35]⟩ : ByteArray) (mx bt132.2 0)).bind fun t135 => ((strings_Repeat.f (⟨#[98]⟩ : ByteArray) (mx (wrap64 (-bt132.2)) 0)).bind fun t136 => (if t135.size + t136.size ≤ 9223372036854775807 then (if ((⟨#[67, 68, 69, 70, 71, 65, 66]⟩ : ByteArray).extract (bt132.1 : Int).toNat ((wrap64 (bt132.1 + 1)) : Int).toNat).size + (t135 ++ t136).size ≤ 9223372036854775807 then (if a0_1 = true then (if (((⟨#[67, 68, 69, 70, 71, 65, 66]⟩ : ByteArray).extract (bt132.1 : Int).toNat ((wrap64 (bt132.1 + 1)) : Int).toNat) ++ (t135 ++ t136)).size + 6 ≤ 9223372036854775807 then (some ((((⟨#[67, 68, 69, 70, 71, 65, 66]⟩ : ByteArray).extract (bt132.1 : Int).toNat ((wrap64 (bt132.1 + 1)) : Int).toNat) ++ (t135 ++ t136)) ++ (⟨#[32, 109, 105, 110, 111, 114]⟩ : ByteArray))) else (none)) else (if (((⟨#[67, 68, 69, 70, 71, 65, 66]⟩ : ByteArray).extract (bt132.1 : Int).toNat ((wrap64 (bt132.1 + 1)) : Int).toNat) ++ (t135 ++ t136)).size + 6 ≤ 9223372036854775807 then (some ((((⟨#[67, 68, 69, 70, 71, 65, 66]⟩ : ByteArray).extract (bt132.1 : Int).toNat ((wrap64 (bt132.1 + 1)) : Int).toNat) ++ (t135 ++ t136)) ++ (⟨#[32, 109, 97, 106, 111, 114]⟩ : ByteArray))) else (none))) else (none)) else (none)))) else (none)) else (none)) else (none))) = some r := h
  clear h
  replace H := Option.bind_eq_some_iff.mp H
  obtain ⟨⟨t132, t133⟩, A20, H⟩ := H
  replace H : (if 0 ≤ t132 then (if t132 ≤ (wrap64 (t132 + 1)) then (if (wrap64 (t132 + 1)) ≤ 7 then ((strings_Repeat.f (⟨#[35]⟩ : ByteArray) (mx t133 0)).bind fun t135 => ((strings_Repeat.f (⟨#[98]⟩ : ByteArray) (mx (wrap64 (-t133)) 0)).bind fun t136 => (if t135.size + t136.size ≤ 9223372036854775807 then (if ((⟨#[67, 68, 69, 70, 71, 65, 66]⟩ : ByteArray).extract (t132 : Int).toNat ((wrap64 (t132 + 1)) : Int).toNat).size + (t135 ++ t136).size ≤ 9223372036854775807 then (if a0_1 = true then (if (((⟨#[67, 68, 69, 70, 71, 65, 66]⟩ : ByteArray).extract (t132 : Int).toNat ((wrap64 (t132 + 1)) : Int).toNat) ++ (t135 ++ t136)).size + 6 ≤ 9223372036854775807 then (some ((((⟨#[67, 68, 69, 70, 71, 65, 66]⟩ : ByteArray).extract (t132 : Int).toNat ((wrap64 (t132 + 1)) : Int).toNat) ++ (t135 ++ t136)) ++ (⟨#[32, 109, 105, 110, 111, 114]⟩ : ByteArray))) else (none)) else (if (((⟨#[67, 68, 69, 70, 71, 65, 66]⟩ : ByteArray).extract (t132 : Int).toNat ((wrap64 (t132 + 1)) : Int).toNat) ++ (t135 ++ t136)).size + 6 ≤ 9223372036854775807 then (some ((((⟨#[67, 68, 69, 70, 71, 65, 66]⟩ : ByteArray).extract (t132 : Int).toNat ((wrap64 (t132 + 1)) : Int).toNat) ++ (t135 ++ t136)) ++ (⟨#[32, 109, 97, 106, 111, 114]⟩ : ByteArray))) else (none))) else (none)) else (none)))) else (none)) else (none)) else (none)) = some r := H
  have A2 := Aside0.mk A20
  clear A20
  by_cases c3 : 0 ≤ t132
  · rw [if_pos c3] at H
    have c3b0 := eq_true c3
    have c3b1 : decide (0 ≤ t132) = true := decide_eq_true c3
    clear c3
    by_cases c4 : t132 ≤ (wrap64 (t132 + 1))
    · rw [if_pos c4] at H
      have c4b0 := eq_true c4
      have c4b1 : decide (t132 ≤ (wrap64 (t132 + 1))) = true := decide_eq_true c4
      by_cases c5 : (wrap64 (t132 + 1)) ≤ 7
      · rw [if_pos c5] at H
        have c5b0 := eq_true c5
        have c5b1 : decide ((wrap64 (t132 + 1)) ≤ 7) = true := decide_eq_true c5
        obtain ⟨ji6, hji6⟩ : ∃ j_ : Int, (mx t133 0) = j_ := ⟨_, rfl⟩
        replace H : ((strings_Repeat.f (⟨#[35]⟩ : ByteArray) (ji6)).bind fun t135 => ((strings_Repeat.f (⟨#[98]⟩ : ByteArray) (mx (wrap64 (-t133)) 0)).bind fun t136 => (if t135.size + t136.size ≤ 9223372036854775807 then (if ((⟨#[67, 68, 69, 70, 71, 65, 66]⟩ : ByteArray).extract (t132 : Int).toNat ((wrap64 (t132 + 1)) : Int).toNat).size + (t135 ++ t136).size ≤ 9223372036854775807 then (if a0_1 = true then (if (((⟨#[67, 68, 69, 70, 71, 65, 66]⟩ : ByteArray).extract (t132 : Int).toNat ((wrap64 (t132 + 1)) : Int).toNat) ++ (t135 ++ t136)).size + 6 ≤ 9223372036854775807 then (some ((((⟨#[67, 68, 69, 70, 71, 65, 66]⟩ : ByteArray).extract (t132 : Int).toNat ((wrap64 (t132 + 1)) : Int).toNat) ++ (t135 ++ t136)) ++ (⟨#[32, 109, 105, 110, 111, 114]⟩ : ByteArray))) else (none)) else (if (((⟨#[67, 68, 69, 70, 71, 65, 66]⟩ : ByteArray).extract (t132 : Int).toNat ((wrap64 (t132 + 1)) : Int).toNat) ++ (t135 ++ t136)).size + 6 ≤ 9223372036854775807 then (some ((((⟨#[67, 68, 69, 70, 71, 65, 66]⟩ : ByteArray).extract (t132 : Int).toNat ((wrap64 (t132 + 1)) : Int).toNat) ++ (t135 ++ t136)) ++ (⟨#[32, 109, 97, 106, 111, 114]⟩ : ByteArray))) else (none))) else (none)) else (none)))) = some r := by first | (rw [hji6] at H; exact H) | (simp only [hji6] at H ⊢; exact H)
        (try rw [hji6] at A2)
        (try (have hji6l : 0 ≤ ji6 := by (rw [← hji6]; unfold mx; (repeat' split) <;> omega)))
        (try (have hji6m : 0 ≤ ji6 := by omega))
        have hji6_ : (if t133 < 0 then 0 else t133) = ji6 := hji6
        replace H := Option.bind_eq_some_iff.mp H
        obtain ⟨t135, A70, H⟩ := H
        replace H : ((strings_Repeat.f (⟨#[98]⟩ : ByteArray) (mx (wrap64 (-t133)) 0)).bind fun t136 => (if t135.size + t136.size ≤ 9223372036854775807 then (if ((⟨#[67, 68, 69, 70, 71, 65, 66]⟩ : ByteArray).extract (t132 : Int).toNat ((wrap64 (t132 + 1)) : Int).toNat).size + (t135 ++ t136).size ≤ 9223372036854775807 then (if a0_1 = true then (if (((⟨#[67, 68, 69, 70, 71, 65, 66]⟩ : ByteArray).extract (t132 : Int).toNat ((wrap64 (t132 + 1)) : Int).toNat) ++ (t135 ++ t136)).size + 6 ≤ 9223372036854775807 then (some ((((⟨#[67, 68, 69, 70, 71, 65, 66]⟩ : ByteArray).extract (t132 : Int).toNat ((wrap64 (t132 + 1)) : Int).toNat) ++ (t135 ++ t136)) ++ (⟨#[32, 109, 105, 110, 111, 114]⟩ : ByteArray))) else (none)) else (if (((⟨#[67, 68, 69, 70, 71, 65, 66]⟩ : ByteArray).extract (t132 : Int).toNat ((wrap64 (t132 + 1)) : Int).toNat) ++ (t135 ++ t136)).size + 6 ≤ 9223372036854775807 then (some ((((⟨#[67, 68, 69, 70, 71, 65, 66]⟩ : ByteArray).extract (t132 : Int).toNat ((wrap64 (t132 + 1)) : Int).toNat) ++ (t135 ++ t136)) ++ (⟨#[32, 109, 97, 106, 111, 114]⟩ : ByteArray))) else (none))) else (none)) else (none))) = some r := H
        have A7 := Aside0.mk A70
        clear A70
        obtain ⟨ji8, hji8⟩ : ∃ j_ : Int, (mx (wrap64 (-t133)) 0) = j_ := ⟨_, rfl⟩
        replace H : ((strings_Repeat.f (⟨#[98]⟩ : ByteArray) (ji8)).bind fun t136 => (if t135.size + t136.size ≤ 9223372036854775807 then (if ((⟨#[67, 68, 69, 70, 71, 65, 66]⟩ : ByteArray).extract (t132 : Int).toNat ((wrap64 (t132 + 1)) : Int).toNat).size + (t135 ++ t136).size ≤ 9223372036854775807 then (if a0_1 = true then (if (((⟨#[67, 68, 69, 70, 71, 65, 66]⟩ : ByteArray).extract (t132 : Int).toNat ((wrap64 (t132 + 1)) : Int).toNat) ++ (t135 ++ t136)).size + 6 ≤ 9223372036854775807 then (some ((((⟨#[67, 68, 69, 70, 71, 65, 66]⟩ : ByteArray).extract (t132 : Int).toNat ((wrap64 (t132 + 1)) : Int).toNat) ++ (t135 ++ t136)) ++ (⟨#[32, 109, 105, 110, 111, 114]⟩ : ByteArray))) else (none)) else (if (((⟨#[67, 68, 69, 70, 71, 65, 66]⟩ : ByteArray).extract (t132 : Int).toNat ((wrap64 (t132 + 1)) : Int).toNat) ++ (t135 ++ t136)).size + 6 ≤ 9223372036854775807 then (some ((((⟨#[67, 68, 69, 70, 71, 65, 66]⟩ : ByteArray).extract (t132 : Int).toNat ((wrap64 (t132 + 1)) : Int).toNat) ++ (t135 ++ t136)) ++ (⟨#[32, 109, 97, 106, 111, 114]⟩ : ByteArray))) else (none))) else (none)) else (none))) = some r := by first | (rw [hji8] at H; exact H) | (simp only [hji8] at H ⊢; exact H)
        (try rw [hji8] at A2)
        (try rw [hji8] at A7)
        (try (have hji8l : 0 ≤ ji8 := by (rw [← hji8]; unfold mx; (repeat' split) <;> omega)))
        (try (have hji8m : 0 ≤ ji8 := by omega))
        have hji8_ : (if (wrap64 (-t133)) < 0 then 0 else (wrap64 (-t133))) = ji8 := hji8
        replace H := Option.bind_eq_some_iff.mp H
        obtain ⟨t136, A90, H⟩ := H
        replace H : (if t135.size + t136.size ≤ 9223372036854775807 then (if ((⟨#[67, 68, 69, 70, 71, 65, 66]⟩ : ByteArray).extract (t132 : Int).toNat ((wrap64 (t132 + 1)) : Int).toNat).size + (t135 ++ t136).size ≤ 9223372036854775807 then (if a0_1 = true then (if (((⟨#[67, 68, 69, 70, 71, 65, 66]⟩ : ByteArray).extract (t132 : Int).toNat ((wrap64 (t132 + 1)) : Int).toNat) ++ (t135 ++ t136)).size + 6 ≤ 9223372036854775807 then (some ((((⟨#[67, 68, 69, 70, 71, 65, 66]⟩ : ByteArray).extract (t132 : Int).toNat ((wrap64 (t132 + 1)) : Int).toNat) ++ (t135 ++ t136)) ++ (⟨#[32, 109, 105, 110, 111, 114]⟩ : ByteArray))) else (none)) else (if (((⟨#[67, 68, 69, 70, 71, 65, 66]⟩ : ByteArray).extract (t132 : Int).toNat ((wrap64 (t132 + 1)) : Int).toNat) ++ (t135 ++ t136)).size + 6 ≤ 9223372036854775807 then (some ((((⟨#[67, 68, 69, 70, 71, 65, 66]⟩ : ByteArray).extract (t132 : Int).toNat ((wrap64 (t132 + 1)) : Int).toNat) ++ (t135 ++ t136)) ++ (⟨#[32, 109, 97, 106, 111, 114]⟩ : ByteArray))) else (none))) else (none)) else (none)) = some r := H
        have A9 := Aside0.mk A90
        clear A90
        by_cases c10 : t135.size + t136.size ≤ 9223372036854775807
        · rw [if_pos c10] at H
          have c10b0 := eq_true c10
          have c10b1 : decide (t135.size + t136.size ≤ 9223372036854775807) = true := decide_eq_true c10
          try have c10b2 : (9223372036854775807 < t135.size + t136.size) = False := eq_false (Nat.not_lt.2 c10)
          by_cases c11 : ((⟨#[67, 68, 69, 70, 71, 65, 66]⟩ : ByteArray).extract (t132 : Int).toNat ((wrap64 (t132 + 1)) : Int).toNat).size + (t135 ++ t136).size ≤ 9223372036854775807
          · rw [if_pos c11] at H
            have c11b0 := eq_true c11
            have c11b1 : decide (((⟨#[67, 68, 69, 70, 71, 65, 66]⟩ : ByteArray).extract (t132 : Int).toNat ((wrap64 (t132 + 1)) : Int).toNat).size + (t135 ++ t136).size ≤ 9223372036854775807) = true := decide_eq_true c11
            try have c11b2 : (9223372036854775807 < ((⟨#[67, 68, 69, 70, 71, 65, 66]⟩ : ByteArray).extract (t132 : Int).toNat ((wrap64 (t132 + 1)) : Int).toNat).size + (t135 ++ t136).size) = False := eq_false (Nat.not_lt.2 c11)
            have c11s : (9223372036854775807 < (wrap64 (t132 + 1)).toNat - t132.toNat + (t135.size + t136.size)) = False := eq_false (by have z_ := of_eq_true c5b0; have y_ := of_eq_true c3b0; have h_ := c11; rw [ByteArray.size_append, ByteArray.size_extract] at h_; have e_ : (⟨#[67, 68, 69, 70, 71, 65, 66]⟩ : ByteArray).size = 7 := rfl; rw [e_] at h_; omega)
            by_cases c12 : a0_1 = true
            · subst c12
              have H1 : (if (((⟨#[67, 68, 69, 70, 71, 65, 66]⟩ : ByteArray).extract (t132 : Int).toNat ((wrap64 (t132 + 1)) : Int).toNat) ++ (t135 ++ t136)).size + 6 ≤ 9223372036854775807 then (some ((((⟨#[67, 68, 69, 70, 71, 65, 66]⟩ : ByteArray).extract (t132 : Int).toNat ((wrap64 (t132 + 1)) : Int).toNat) ++ (t135 ++ t136)) ++ (⟨#[32, 109, 105, 110, 111, 114]⟩ : ByteArray))) else (none)) = some r := by rw [if_pos rfl] at H; exact H
              clear H
              have H := H1
              clear H1
              by_cases c13 : (((⟨#[67, 68, 69, 70, 71, 65, 66]⟩ : ByteArray).extract (t132 : Int).toNat ((wrap64 (t132 + 1)) : Int).toNat) ++ (t135 ++ t136)).size + 6 ≤ 9223372036854775807
              · rw [if_pos c13] at H
                have c13b0 := eq_true c13
                have c13b1 : decide ((((⟨#[67, 68, 69, 70, 71, 65, 66]⟩ : ByteArray).extract (t132 : Int).toNat ((wrap64 (t132 + 1)) : Int).toNat) ++ (t135 ++ t136)).size + 6 ≤ 9223372036854775807) = true := decide_eq_true c13
                try have c13b2 : (9223372036854775807 < (((⟨#[67, 68, 69, 70, 71, 65, 66]⟩ : ByteArray).extract (t132 : Int).toNat ((wrap64 (t132 + 1)) : Int).toNat) ++ (t135 ++ t136)).size + 6) = False := eq_false (Nat.not_lt.2 c13)
                have c13s : (9223372036854775807 < (wrap64 (t132 + 1)).toNat - t132.toNat + (t135.size + t136.size) + 6) = False := eq_false (by have z_ := of_eq_true c5b0; have y_ := of_eq_true c3b0; have h_ := c13; rw [ByteArray.size_append, ByteArray.size_append, ByteArray.size_extract] at h_; have e_ : (⟨#[67, 68, 69, 70, 71, 65, 66]⟩ : ByteArray).size = 7 := rfl; rw [e_] at h_; omega)
                obtain rfl := Option.some.inj H
                go_enter Tryd.func19, Tryd.ntmps19
                try go_wp2_with (first | ((with_reducible refine gate_dst (N := 1) rfl ?_); refine box_event ?hg (N := 1) ?hd (cs := #[.int .i64 a0_0, .bool true]) (t := 23) ?hr ?_; (case hd => rfl); (case hg => rfl); (case hr => first | (go_simp; done) | (go_simp; rfl)); intro gb131 hg w14 hbox hb; have n0_ := Aside0.mk (below_step (by repeat (first | (with_reducible first | exact HB.out | apply below_alloc | apply pw_below_drewN | apply below_drew1) | exact HB.out)) hb); have n1_ := Aside0.mk (hbox); have n2_ := Aside0.mk ((by rw [hg]; exact (below_size (by repeat (first | (with_reducible first | exact HB.out | apply below_alloc | apply pw_below_drewN | apply below_drew1) | exact HB.out))) : w.heap.size ≤ gb131)); have n3_ := n2_; clear HB; have HB := n0_; have BK131 := n1_; have GW131 := n2_; have GE131 := n3_; clear n0_ n1_ n2_ n3_; clear hb hbox hg; have hcz15_0 : w14.cell? ⟨gb131, 0, none⟩ = some (.int .i64 a0_0) := (blk_cell BK131.out 0).trans rfl; have hcz15_1 : w14.cell? ⟨gb131, 1, none⟩ = some (.bool true) := (blk_cell BK131.out 1).trans rfl; have hfz15_0 := blk_frozen BK131.out 0; have hfz15_1 := blk_frozen BK131.out 1) | ((with_reducible refine gate_callee (f := 17) rfl ?_); refine goesL_ (some 6) rfl rfl Tryd.func17 (by kernel_rfl) rfl #[.agg #[.int .i64 a0_0, .bool true]] rfl (by (try simp only [List.map_toArray, List.map_cons, List.map_nil]); first | done | rfl) ?_; (with_reducible refine (key_tonic.calls a0_0 true t132 t133 _ A2.out).mono ?_); rintro e w16 ⟨rfl, hb⟩; refine ⟨_, rfl, ?_⟩; have n0_ := Aside0.mk (blk_below (g := gb131) (o := .cells #[.int .i64 a0_0, .bool true] 23 (0, 0)) (by (with_reducible repeat (first | refine blk_drewN ?_ _ | refine blk_drew ?_ | refine blk_alloc ?_ _)); exact BK131.out) hb); have n1_ := Aside0.mk (below_step (by repeat (first | (with_reducible first | exact HB.out | apply below_alloc | apply pw_below_drewN | apply below_drew1 | refine below_set ?_ GE131.out) | exact HB.out)) hb); clear BK131; clear HB; have BK131 := n0_; have HB := n1_; clear n0_ n1_; (try clear hb); (try clear hb2); (try clear hk); (try clear hi)) | ((with_reducible refine gate_dst (N := 3) rfl ?_); refine box_event ?hg (N := 3) ?hd (cs := #[.int .i64 0, .int .i64 0]) (t := 49) ?hr ?_; (case hd => rfl); (case hg => rfl); (case hr => first | (go_simp; done) | (go_simp; rfl)); intro gb134 hg w17 hbox hb; have n0_ := Aside0.mk (blk_below (g := gb131) (o := .cells #[.int .i64 a0_0, .bool true] 23 (0, 0)) (by (with_reducible repeat (first | refine blk_drewN ?_ _ | refine blk_drew ?_ | refine blk_alloc ?_ _)); exact BK131.out) hb); have n1_ := Aside0.mk (below_step (by repeat (first | (with_reducible first | exact HB.out | apply below_alloc | apply pw_below_drewN | apply below_drew1 | refine below_set ?_ GE131.out) | exact HB.out)) hb); have n2_ := Aside0.mk (hbox); have n3_ := Aside0.mk ((by rw [hg]; exact (below_size (by repeat (first | (with_reducible first | exact HB.out | apply below_alloc | apply pw_below_drewN | apply below_drew1 | refine below_set ?_ GE131.out) | exact HB.out))) : w.heap.size ≤ gb134)); have n4_ := n3_; have n5_ := Aside0.mk ((by rw [hg]; exact Nat.ne_of_lt (blk_lt (g := gb131) (o := .cells #[.int .i64 a0_0, .bool true] 23 (0, 0)) (by (with_reducible repeat (first | refine blk_drewN ?_ _ | refine blk_drew ?_ | refine blk_alloc ?_ _)); exact BK131.out)) : gb131 ≠ gb134)); have n6_ := Aside0.mk n5_.out.symm; clear BK131; clear HB; have BK131 := n0_; have HB := n1_; have BK134 := n2_; have GW134 := n3_; have GE134 := n4_; have NB131_134 := n5_; have NB134_131 := n6_; clear n0_ n1_ n2_ n3_ n4_ n5_ n6_; clear hb hbox hg; have hnb18 := NB134_131.out; have hnc18 := NB131_134.out; have hcz19_0 : w17.cell? ⟨gb134, 0, none⟩ = some (.int .i64 0) := (blk_cell BK134.out 0).trans rfl; have hcz19_1 : w17.cell? ⟨gb134, 1, none⟩ = some (.int .i64 0) := (blk_cell BK134.out 1).trans rfl; have hfz19_0 := blk_frozen BK134.out 0; have hfz19_1 := blk_frozen BK134.out 1))
                have n0_ : Aside0 (((w17.setCell ⟨gb134, 0, none⟩ (.int .i64 t132)).setCell ⟨gb134, 1, none⟩ (.int .i64 t133)).heap[gb131]? = some (.cells #[.int .i64 a0_0, .bool true] 23 (0, 0))) := ⟨by (with_reducible repeat (first | refine blk_drewN ?_ _ | refine blk_drew ?_ | refine blk_alloc ?_ _)); refine blk_far ?_ NB131_134.out _; (with_reducible repeat (first | refine blk_drewN ?_ _ | refine blk_drew ?_ | refine blk_alloc ?_ _)); refine blk_far ?_ NB131_134.out _; (with_reducible repeat (first | refine blk_drewN ?_ _ | refine blk_drew ?_ | refine blk_alloc ?_ _)); exact BK131.out⟩
                have n1_ : Aside0 (((w17.setCell ⟨gb134, 0, none⟩ (.int .i64 t132)).setCell ⟨gb134, 1, none⟩ (.int .i64 t133)).heap[gb134]? = some (.cells #[.int .i64 t132, .int .i64 t133] 49 (0, 0))) := ⟨by (with_reducible repeat (first | refine blk_drewN ?_ _ | refine blk_drew ?_ | refine blk_alloc ?_ _)); refine blk_put (cs := #[.int .i64 t132, .int .i64 0]) ?_ 1 _ rfl; (with_reducible repeat (first | refine blk_drewN ?_ _ | refine blk_drew ?_ | refine blk_alloc ?_ _)); refine blk_put (cs := #[.int .i64 0, .int .i64 0]) ?_ 0 _ rfl; (with_reducible repeat (first | refine blk_drewN ?_ _ | refine blk_drew ?_ | refine blk_alloc ?_ _)); exact BK134.out⟩
                have n2_ : Aside0 (Below w.heap.size w ((w17.setCell ⟨gb134, 0, none⟩ (.int .i64 t132)).setCell ⟨gb134, 1, none⟩ (.int .i64 t133))) := ⟨by repeat (first | (with_reducible first | exact HB.out | apply below_alloc | apply pw_below_drewN | apply below_drew1 | refine below_set ?_ GE131.out | refine below_set ?_ GE134.out) | exact HB.out)⟩
                (try clear BK131)
                (try clear BK134)
                (try clear HB)
                generalize ((w17.setCell ⟨gb134, 0, none⟩ (.int .i64 t132)).setCell ⟨gb134, 1, none⟩ (.int .i64 t133)) = w20 at n0_ n1_ n2_ ⊢
                have BK131 := n0_
                have BK134 := n1_
                have HB := n2_
                clear n0_ n1_ n2_
                have n0_ := Aside0.mk (blk_drew BK131.out)
                have n1_ := Aside0.mk (blk_drew BK134.out)
                have n2_ := Aside0.mk (below_drew1 HB.out)
                clear BK131
                clear BK134
                clear HB
                have BK131 := n0_
                have BK134 := n1_
                have HB := n2_
                clear n0_ n1_ n2_
                refine start_ (n := 13) (S := fun w' => w'.cell? ⟨gb134, 0, none⟩ = some (.int .i64 t132) ∧ w'.cell? ⟨gb134, 1, none⟩ = some (.int .i64 t133)) (ds := []) #[false, false, false, false, false, false, false, false, false, false, false, false, false] (by kernel_rfl) rfl rfl ⟨(blk_cell BK134.out 0).trans rfl, (blk_cell BK134.out 1).trans rfl⟩ (fun hHeld => ?_); refine with_tabW key_name.tab3 key_name.bits3 (fun HT_ HW_ => ?_)
                generalize w20.drew = w21 at BK131 BK134 HB hHeld ⊢
                refine pure_ (i := 0) (N := some 13) (v := ?_) (a' := ?_) #[true, false, false, false, false, false, false, false, false, false, false, false, false] rfl rfl (any_of HT_.out (by kernel_rfl)) (fun _ _ _ h => h) (Or.inl ⟨by rfl, ?_⟩) ?_ ?_
                rotate_left
                · intro w'
                  go_simp
                  with_reducible rfl
                rotate_left
                · simp only [Act.put, List.setIfInBounds_toArray, List.set_cons_zero, List.set_cons_succ, i64_w, i32_w]
                  rfl
                refine pure_ (i := 1) (N := some 14) (v := ?_) (a' := ?_) #[true, true, false, false, false, false, false, false, false, false, false, false, false] rfl rfl (any_of HT_.out (by kernel_rfl)) (fun _ _ _ h => h) (Or.inl ⟨by rfl, ?_⟩) ?_ ?_
                rotate_left
                · intro w'
                  go_simp
                  with_reducible rfl
                rotate_left
                · simp only [Act.put, List.setIfInBounds_toArray, List.set_cons_zero, List.set_cons_succ, i64_w, i32_w]
                  rfl
                refine pure_ (i := 5) (N := some 18) (v := ?_) (a' := ?_) #[true, true, false, false, false, true, false, false, false, false, false, false, false] rfl rfl (any_of HT_.out (by kernel_rfl)) (fun _ _ _ h => h) (Or.inl ⟨by rfl, ?_⟩) ?_ ?_
                rotate_left
                · intro w'
                  go_simp
                  with_reducible rfl
                rotate_left
                · simp only [Act.put, List.setIfInBounds_toArray, List.set_cons_zero, List.set_cons_succ, i64_w, i32_w]
                  rfl
                refine take_ (i := 2) (N := some 15) (v := ?_) (a' := ?_) #[true, true, true, false, false, true, false, false, false, false, false, false, false] rfl rfl (take_ofW HT_.out HW_.out (by kernel_rfl)) (fun _ _ _ h => h) (Or.inl ⟨by rfl, ?_⟩) hHeld ?_ ?_
                rotate_left
                · rintro w' ⟨s0, s1⟩
                  go_simp
                  with_reducible rfl
                rotate_left
                · simp only [Act.put, List.setIfInBounds_toArray, List.set_cons_zero, List.set_cons_succ, i64_w, i32_w]
                  rfl
                refine pure_ (i := 3) (N := some 16) (v := ?_) (a' := ?_) #[true, true, true, true, false, true, false, false, false, false, false, false, false] rfl rfl (any_of HT_.out (by kernel_rfl)) (fun _ _ _ h => h) (Or.inl ⟨by rfl, ?_⟩) ?_ ?_
                rotate_left
                · intro w'
                  go_simp
                  with_reducible rfl
                rotate_left
                · simp only [Act.put, List.setIfInBounds_toArray, List.set_cons_zero, List.set_cons_succ, i64_w, i32_w]
                  rfl
                refine take_ (i := 6) (N := some 19) (v := ?_) (a' := ?_) #[true, true, true, true, false, true, true, false, false, false, false, false, false] rfl rfl (take_ofW HT_.out HW_.out (by kernel_rfl)) (fun _ _ _ h => h) (Or.inl ⟨by rfl, ?_⟩) hHeld ?_ ?_
                rotate_left
                · rintro w' ⟨s0, s1⟩
                  go_simp
                  with_reducible rfl
                rotate_left
                · simp only [Act.put, List.setIfInBounds_toArray, List.set_cons_zero, List.set_cons_succ, i64_w, i32_w]
                  rfl
                refine pure_ (i := 7) (N := some 20) (v := ?_) (a' := ?_) #[true, true, true, true, false, true, true, true, false, false, false, false, false] rfl rfl (any_of HT_.out (by kernel_rfl)) (fun _ _ _ h => h) (Or.inl ⟨by rfl, ?_⟩) ?_ ?_
                rotate_left
                · intro w'
                  go_simp
                  with_reducible rfl
                rotate_left
                · simp only [Act.put, List.setIfInBounds_toArray, List.set_cons_zero, List.set_cons_succ, i64_w, i32_w]
                  rfl
                refine pure_ (i := 8) (N := some 21) (v := ?_) (a' := ?_) #[true, true, true, true, false, true, true, true, true, false, false, false, false] rfl rfl (any_of HT_.out (by kernel_rfl)) (fun _ _ _ h => h) (Or.inl ⟨by rfl, ?_⟩) ?_ ?_
                rotate_left
                · intro w'
                  go_simp
                  with_reducible rfl
                rotate_left
                · simp only [Act.put, List.setIfInBounds_toArray, List.set_cons_zero, List.set_cons_succ, i64_w, i32_w]
                  rfl
                refine one_ (i := 4) (N := some 17) #[true, true, true, true, true, true, true, true, true, false, false, false, false] rfl rfl (one_of HT_.out (by kernel_rfl)) (by decide) (fun K hK => ?_)
                refine goes_ Tryd.func22 (by kernel_rfl) rfl #[.string (⟨#[35]⟩ : ByteArray), .int .i64 ji6] (by rfl) rfl rfl (by (try simp only [List.map_toArray, List.map_cons, List.map_nil]); first | done | (simp only [hji6]; rfl) | rfl | (simp only [List.length_drop, List.length_take]; rfl)) ?_
                with_reducible refine (strings_Repeat.calls (⟨#[35]⟩ : ByteArray) ji6 t135 _ A7.out).mono ?_
                rintro e w22 ⟨rfl, hb⟩
                refine ⟨_, rfl, ?_⟩
                have n0_ := Aside0.mk (blk_below (g := gb131) (o := .cells #[.int .i64 a0_0, .bool true] 23 (0, 0)) (by (with_reducible repeat (first | refine blk_drewN ?_ _ | refine blk_drew ?_ | refine blk_alloc ?_ _)); exact BK131.out) hb)
                have n1_ := Aside0.mk (blk_below (g := gb134) (o := .cells #[.int .i64 t132, .int .i64 t133] 49 (0, 0)) (by (with_reducible repeat (first | refine blk_drewN ?_ _ | refine blk_drew ?_ | refine blk_alloc ?_ _)); exact BK134.out) hb)
                have n2_ := Aside0.mk (below_step (by repeat (first | (with_reducible first | exact HB.out | apply below_alloc | apply pw_below_drewN | apply below_drew1 | refine below_set ?_ GE131.out | refine below_set ?_ GE134.out) | exact HB.out)) hb)
                clear BK131
                clear BK134
                clear HB
                have BK131 := n0_
                have BK134 := n1_
                have HB := n2_
                clear n0_ n1_ n2_
                (try clear hb)
                (try clear hb2)
                (try clear hk)
                (try clear hi)
                refine hK.out _ _ ⟨(blk_cell BK134.out 0).trans rfl, (blk_cell BK134.out 1).trans rfl⟩ (fun hHeld => ?_)
                clear hK K
                refine norm_ (a' := ?_) ?_ ?_
                rotate_left
                · show Act.put _ (some 17) _ = _
                  simp only [Act.put, List.setIfInBounds_toArray, List.set_cons_zero, List.set_cons_succ, i64_w, i32_w]
                  rfl
                refine one_ (i := 9) (N := some 22) #[true, true, true, true, true, true, true, true, true, true, false, false, false] rfl rfl (one_of HT_.out (by kernel_rfl)) (by decide) (fun K hK => ?_)
                refine goes_ Tryd.func22 (by kernel_rfl) rfl #[.string (⟨#[98]⟩ : ByteArray), .int .i64 ji8] (by rfl) rfl rfl (by (try simp only [List.map_toArray, List.map_cons, List.map_nil]); first | done | (simp only [hji8]; rfl) | rfl | (simp only [List.length_drop, List.length_take]; rfl)) ?_
                with_reducible refine (strings_Repeat.calls (⟨#[98]⟩ : ByteArray) ji8 t136 _ A9.out).mono ?_
                rintro e w23 ⟨rfl, hb⟩
                refine ⟨_, rfl, ?_⟩
                have n0_ := Aside0.mk (blk_below (g := gb131) (o := .cells #[.int .i64 a0_0, .bool true] 23 (0, 0)) (by (with_reducible repeat (first | refine blk_drewN ?_ _ | refine blk_drew ?_ | refine blk_alloc ?_ _)); exact BK131.out) hb)
                have n1_ := Aside0.mk (blk_below (g := gb134) (o := .cells #[.int .i64 t132, .int .i64 t133] 49 (0, 0)) (by (with_reducible repeat (first | refine blk_drewN ?_ _ | refine blk_drew ?_ | refine blk_alloc ?_ _)); exact BK134.out) hb)
                have n2_ := Aside0.mk (below_step (by repeat (first | (with_reducible first | exact HB.out | apply below_alloc | apply pw_below_drewN | apply below_drew1 | refine below_set ?_ GE131.out | refine below_set ?_ GE134.out) | exact HB.out)) hb)
                clear BK131
                clear BK134
                clear HB
                have BK131 := n0_
                have BK134 := n1_
                have HB := n2_
                clear n0_ n1_ n2_
                (try clear hb)
                (try clear hb2)
                (try clear hk)
                (try clear hi)
                refine hK.out _ _ ⟨(blk_cell BK134.out 0).trans rfl, (blk_cell BK134.out 1).trans rfl⟩ (fun hHeld => ?_)
                clear hK K
                refine norm_ (a' := ?_) ?_ ?_
                rotate_left
                · show Act.put _ (some 22) _ = _
                  simp only [Act.put, List.setIfInBounds_toArray, List.set_cons_zero, List.set_cons_succ, i64_w, i32_w]
                  rfl
                refine pure_ (i := 10) (N := some 23) (v := ?_) (a' := ?_) #[true, true, true, true, true, true, true, true, true, true, true, false, false] rfl rfl (any_of HT_.out (by kernel_rfl)) (fun _ _ _ h => h) (Or.inl ⟨by rfl, ?_⟩) ?_ ?_
                rotate_left
                · intro w'
                  go_simp
                  with_reducible rfl
                rotate_left
                · simp only [Act.put, List.setIfInBounds_toArray, List.set_cons_zero, List.set_cons_succ, i64_w, i32_w]
                  rfl
                refine pure_ (i := 11) (N := some 24) (v := ?_) (a' := ?_) #[true, true, true, true, true, true, true, true, true, true, true, true, false] rfl rfl (any_of HT_.out (by kernel_rfl)) (fun _ _ _ h => h) (Or.inl ⟨by rfl, ?_⟩) ?_ ?_
                rotate_left
                · intro w'
                  go_simp
                  with_reducible rfl
                rotate_left
                · simp only [Act.put, List.setIfInBounds_toArray, List.set_cons_zero, List.set_cons_succ, i64_w, i32_w]
                  rfl
                refine pure_ (i := 12) (N := some 4) (v := ?_) (a' := ?_) #[true, true, true, true, true, true, true, true, true, true, true, true, true] rfl rfl (any_of HT_.out (by kernel_rfl)) (fun _ _ _ h => h) (Or.inl ⟨by rfl, ?_⟩) ?_ ?_
                rotate_left
                · intro w'
                  go_simp
                  with_reducible rfl
                rotate_left
                · simp only [Act.put, List.setIfInBounds_toArray, List.set_cons_zero, List.set_cons_succ, i64_w, i32_w]
                  rfl
                refine done_ (done_of HT_.out (by kernel_rfl)) ?_
                have hcz24_0 : w23.cell? ⟨gb131, 0, none⟩ = some (.int .i64 a0_0) := (blk_cell BK131.out 0).trans rfl
                have hcz24_1 : w23.cell? ⟨gb131, 1, none⟩ = some (.bool true) := (blk_cell BK131.out 1).trans rfl
                have hfz24_0 := blk_frozen BK131.out 0
                have hfz24_1 := blk_frozen BK131.out 1
                try go_wp2
                go_ret
                exact ⟨by first | rfl | (simp [errW_none, errW_some] <;> rfl) | (simp only [← hji6, ← hji8]; first | rfl | (simp [errW_none, errW_some] <;> rfl)) | (simp [*, errW_none, errW_some] <;> rfl), by repeat (first | (with_reducible first | exact HB.out | apply below_alloc | apply pw_below_drewN | apply below_drew1 | refine below_set ?_ GE131.out | refine below_set ?_ GE134.out) | exact HB.out)⟩
              · rw [if_neg c13] at H
                exact absurd H (by simp)
            · replace c12 := Bool.eq_false_iff.mpr c12
              subst c12
              have H1 : (if (((⟨#[67, 68, 69, 70, 71, 65, 66]⟩ : ByteArray).extract (t132 : Int).toNat ((wrap64 (t132 + 1)) : Int).toNat) ++ (t135 ++ t136)).size + 6 ≤ 9223372036854775807 then (some ((((⟨#[67, 68, 69, 70, 71, 65, 66]⟩ : ByteArray).extract (t132 : Int).toNat ((wrap64 (t132 + 1)) : Int).toNat) ++ (t135 ++ t136)) ++ (⟨#[32, 109, 97, 106, 111, 114]⟩ : ByteArray))) else (none)) = some r := by rw [if_neg (show ¬ (false = true) by decide)] at H; exact H
              clear H
              have H := H1
              clear H1
              by_cases c25 : (((⟨#[67, 68, 69, 70, 71, 65, 66]⟩ : ByteArray).extract (t132 : Int).toNat ((wrap64 (t132 + 1)) : Int).toNat) ++ (t135 ++ t136)).size + 6 ≤ 9223372036854775807
              · rw [if_pos c25] at H
                have c25b0 := eq_true c25
                have c25b1 : decide ((((⟨#[67, 68, 69, 70, 71, 65, 66]⟩ : ByteArray).extract (t132 : Int).toNat ((wrap64 (t132 + 1)) : Int).toNat) ++ (t135 ++ t136)).size + 6 ≤ 9223372036854775807) = true := decide_eq_true c25
                try have c25b2 : (9223372036854775807 < (((⟨#[67, 68, 69, 70, 71, 65, 66]⟩ : ByteArray).extract (t132 : Int).toNat ((wrap64 (t132 + 1)) : Int).toNat) ++ (t135 ++ t136)).size + 6) = False := eq_false (Nat.not_lt.2 c25)
                have c25s : (9223372036854775807 < (wrap64 (t132 + 1)).toNat - t132.toNat + (t135.size + t136.size) + 6) = False := eq_false (by have z_ := of_eq_true c5b0; have y_ := of_eq_true c3b0; have h_ := c25; rw [ByteArray.size_append, ByteArray.size_append, ByteArray.size_extract] at h_; have e_ : (⟨#[67, 68, 69, 70, 71, 65, 66]⟩ : ByteArray).size = 7 := rfl; rw [e_] at h_; omega)
                obtain rfl := Option.some.inj H
                go_enter Tryd.func19, Tryd.ntmps19
                try go_wp2_with (first | ((with_reducible refine gate_dst (N := 1) rfl ?_); refine box_event ?hg (N := 1) ?hd (cs := #[.int .i64 a0_0, .bool false]) (t := 23) ?hr ?_; (case hd => rfl); (case hg => rfl); (case hr => first | (go_simp; done) | (go_simp; rfl)); intro gb131 hg w26 hbox hb; have n0_ := Aside0.mk (below_step (by repeat (first | (with_reducible first | exact HB.out | apply below_alloc | apply pw_below_drewN | apply below_drew1) | exact HB.out)) hb); have n1_ := Aside0.mk (hbox); have n2_ := Aside0.mk ((by rw [hg]; exact (below_size (by repeat (first | (with_reducible first | exact HB.out | apply below_alloc | apply pw_below_drewN | apply below_drew1) | exact HB.out))) : w.heap.size ≤ gb131)); have n3_ := n2_; clear HB; have HB := n0_; have BK131 := n1_; have GW131 := n2_; have GE131 := n3_; clear n0_ n1_ n2_ n3_; clear hb hbox hg; have hcz27_0 : w26.cell? ⟨gb131, 0, none⟩ = some (.int .i64 a0_0) := (blk_cell BK131.out 0).trans rfl; have hcz27_1 : w26.cell? ⟨gb131, 1, none⟩ = some (.bool false) := (blk_cell BK131.out 1).trans rfl; have hfz27_0 := blk_frozen BK131.out 0; have hfz27_1 := blk_frozen BK131.out 1) | ((with_reducible refine gate_callee (f := 17) rfl ?_); refine goesL_ (some 6) rfl rfl Tryd.func17 (by kernel_rfl) rfl #[.agg #[.int .i64 a0_0, .bool false]] rfl (by (try simp only [List.map_toArray, List.map_cons, List.map_nil]); first | done | rfl) ?_; (with_reducible refine (key_tonic.calls a0_0 false t132 t133 _ A2.out).mono ?_); rintro e w28 ⟨rfl, hb⟩; refine ⟨_, rfl, ?_⟩; have n0_ := Aside0.mk (blk_below (g := gb131) (o := .cells #[.int .i64 a0_0, .bool false] 23 (0, 0)) (by (with_reducible repeat (first | refine blk_drewN ?_ _ | refine blk_drew ?_ | refine blk_alloc ?_ _)); exact BK131.out) hb); have n1_ := Aside0.mk (below_step (by repeat (first | (with_reducible first | exact HB.out | apply below_alloc | apply pw_below_drewN | apply below_drew1 | refine below_set ?_ GE131.out) | exact HB.out)) hb); clear BK131; clear HB; have BK131 := n0_; have HB := n1_; clear n0_ n1_; (try clear hb); (try clear hb2); (try clear hk); (try clear hi)) | ((with_reducible refine gate_dst (N := 3) rfl ?_); refine box_event ?hg (N := 3) ?hd (cs := #[.int .i64 0, .int .i64 0]) (t := 49) ?hr ?_; (case hd => rfl); (case hg => rfl); (case hr => first | (go_simp; done) | (go_simp; rfl)); intro gb134 hg w29 hbox hb; have n0_ := Aside0.mk (blk_below (g := gb131) (o := .cells #[.int .i64 a0_0, .bool false] 23 (0, 0)) (by (with_reducible repeat (first | refine blk_drewN ?_ _ | refine blk_drew ?_ | refine blk_alloc ?_ _)); exact BK131.out) hb); have n1_ := Aside0.mk (below_step (by repeat (first | (with_reducible first | exact HB.out | apply below_alloc | apply pw_below_drewN | apply below_drew1 | refine below_set ?_ GE131.out) | exact HB.out)) hb); have n2_ := Aside0.mk (hbox); have n3_ := Aside0.mk ((by rw [hg]; exact (below_size (by repeat (first | (with_reducible first | exact HB.out | apply below_alloc | apply pw_below_drewN | apply below_drew1 | refine below_set ?_ GE131.out) | exact HB.out))) : w.heap.size ≤ gb134)); have n4_ := n3_; have n5_ := Aside0.mk ((by rw [hg]; exact Nat.ne_of_lt (blk_lt (g := gb131) (o := .cells #[.int .i64 a0_0, .bool false] 23 (0, 0)) (by (with_reducible repeat (first | refine blk_drewN ?_ _ | refine blk_drew ?_ | refine blk_alloc ?_ _)); exact BK131.out)) : gb131 ≠ gb134)); have n6_ := Aside0.mk n5_.out.symm; clear BK131; clear HB; have BK131 := n0_; have HB := n1_; have BK134 := n2_; have GW134 := n3_; have GE134 := n4_; have NB131_134 := n5_; have NB134_131 := n6_; clear n0_ n1_ n2_ n3_ n4_ n5_ n6_; clear hb hbox hg; have hnb30 := NB134_131.out; have hnc30 := NB131_134.out; have hcz31_0 : w29.cell? ⟨gb134, 0, none⟩ = some (.int .i64 0) := (blk_cell BK134.out 0).trans rfl; have hcz31_1 : w29.cell? ⟨gb134, 1, none⟩ = some (.int .i64 0) := (blk_cell BK134.out 1).trans rfl; have hfz31_0 := blk_frozen BK134.out 0; have hfz31_1 := blk_frozen BK134.out 1))
                have n0_ : Aside0 (((w29.setCell ⟨gb134, 0, none⟩ (.int .i64 t132)).setCell ⟨gb134, 1, none⟩ (.int .i64 t133)).heap[gb131]? = some (.cells #[.int .i64 a0_0, .bool false] 23 (0, 0))) := ⟨by (with_reducible repeat (first | refine blk_drewN ?_ _ | refine blk_drew ?_ | refine blk_alloc ?_ _)); refine blk_far ?_ NB131_134.out _; (with_reducible repeat (first | refine blk_drewN ?_ _ | refine blk_drew ?_ | refine blk_alloc ?_ _)); refine blk_far ?_ NB131_134.out _; (with_reducible repeat (first | refine blk_drewN ?_ _ | refine blk_drew ?_ | refine blk_alloc ?_ _)); exact BK131.out⟩
                have n1_ : Aside0 (((w29.setCell ⟨gb134, 0, none⟩ (.int .i64 t132)).setCell ⟨gb134, 1, none⟩ (.int .i64 t133)).heap[gb134]? = some (.cells #[.int .i64 t132, .int .i64 t133] 49 (0, 0))) := ⟨by (with_reducible repeat (first | refine blk_drewN ?_ _ | refine blk_drew ?_ | refine blk_alloc ?_ _)); refine blk_put (cs := #[.int .i64 t132, .int .i64 0]) ?_ 1 _ rfl; (with_reducible repeat (first | refine blk_drewN ?_ _ | refine blk_drew ?_ | refine blk_alloc ?_ _)); refine blk_put (cs := #[.int .i64 0, .int .i64 0]) ?_ 0 _ rfl; (with_reducible repeat (first | refine blk_drewN ?_ _ | refine blk_drew ?_ | refine blk_alloc ?_ _)); exact BK134.out⟩
                have n2_ : Aside0 (Below w.heap.size w ((w29.setCell ⟨gb134, 0, none⟩ (.int .i64 t132)).setCell ⟨gb134, 1, none⟩ (.int .i64 t133))) := ⟨by repeat (first | (with_reducible first | exact HB.out | apply below_alloc | apply pw_below_drewN | apply below_drew1 | refine below_set ?_ GE131.out | refine below_set ?_ GE134.out) | exact HB.out)⟩
                (try clear BK131)
                (try clear BK134)
                (try clear HB)
                generalize ((w29.setCell ⟨gb134, 0, none⟩ (.int .i64 t132)).setCell ⟨gb134, 1, none⟩ (.int .i64 t133)) = w32 at n0_ n1_ n2_ ⊢
                have BK131 := n0_
                have BK134 := n1_
                have HB := n2_
                clear n0_ n1_ n2_
                have n0_ := Aside0.mk (blk_drew BK131.out)
                have n1_ := Aside0.mk (blk_drew BK134.out)
                have n2_ := Aside0.mk (below_drew1 HB.out)
                clear BK131
                clear BK134
                clear HB
                have BK131 := n0_
                have BK134 := n1_
                have HB := n2_
                clear n0_ n1_ n2_
                refine start_ (n := 13) (S := fun w' => w'.cell? ⟨gb134, 0, none⟩ = some (.int .i64 t132) ∧ w'.cell? ⟨gb134, 1, none⟩ = some (.int .i64 t133)) (ds := []) #[false, false, false, false, false, false, false, false, false, false, false, false, false] (by kernel_rfl) rfl rfl ⟨(blk_cell BK134.out 0).trans rfl, (blk_cell BK134.out 1).trans rfl⟩ (fun hHeld => ?_); refine with_tabW key_name.tab3 key_name.bits3 (fun HT_ HW_ => ?_)
                generalize w32.drew = w33 at BK131 BK134 HB hHeld ⊢
                refine pure_ (i := 0) (N := some 13) (v := ?_) (a' := ?_) #[true, false, false, false, false, false, false, false, false, false, false, false, false] rfl rfl (any_of HT_.out (by kernel_rfl)) (fun _ _ _ h => h) (Or.inl ⟨by rfl, ?_⟩) ?_ ?_
                rotate_left
                · intro w'
                  go_simp
                  with_reducible rfl
                rotate_left
                · simp only [Act.put, List.setIfInBounds_toArray, List.set_cons_zero, List.set_cons_succ, i64_w, i32_w]
                  rfl
                refine pure_ (i := 1) (N := some 14) (v := ?_) (a' := ?_) #[true, true, false, false, false, false, false, false, false, false, false, false, false] rfl rfl (any_of HT_.out (by kernel_rfl)) (fun _ _ _ h => h) (Or.inl ⟨by rfl, ?_⟩) ?_ ?_
                rotate_left
                · intro w'
                  go_simp
                  with_reducible rfl
                rotate_left
                · simp only [Act.put, List.setIfInBounds_toArray, List.set_cons_zero, List.set_cons_succ, i64_w, i32_w]
                  rfl
                refine pure_ (i := 5) (N := some 18) (v := ?_) (a' := ?_) #[true, true, false, false, false, true, false, false, false, false, false, false, false] rfl rfl (any_of HT_.out (by kernel_rfl)) (fun _ _ _ h => h) (Or.inl ⟨by rfl, ?_⟩) ?_ ?_
                rotate_left
                · intro w'
                  go_simp
                  with_reducible rfl
                rotate_left
                · simp only [Act.put, List.setIfInBounds_toArray, List.set_cons_zero, List.set_cons_succ, i64_w, i32_w]
                  rfl
                refine take_ (i := 2) (N := some 15) (v := ?_) (a' := ?_) #[true, true, true, false, false, true, false, false, false, false, false, false, false] rfl rfl (take_ofW HT_.out HW_.out (by kernel_rfl)) (fun _ _ _ h => h) (Or.inl ⟨by rfl, ?_⟩) hHeld ?_ ?_
                rotate_left
                · rintro w' ⟨s0, s1⟩
                  go_simp
                  with_reducible rfl
                rotate_left
                · simp only [Act.put, List.setIfInBounds_toArray, List.set_cons_zero, List.set_cons_succ, i64_w, i32_w]
                  rfl
                refine pure_ (i := 3) (N := some 16) (v := ?_) (a' := ?_) #[true, true, true, true, false, true, false, false, false, false, false, false, false] rfl rfl (any_of HT_.out (by kernel_rfl)) (fun _ _ _ h => h) (Or.inl ⟨by rfl, ?_⟩) ?_ ?_
                rotate_left
                · intro w'
                  go_simp
                  with_reducible rfl
                rotate_left
                · simp only [Act.put, List.setIfInBounds_toArray, List.set_cons_zero, List.set_cons_succ, i64_w, i32_w]
                  rfl
                refine take_ (i := 6) (N := some 19) (v := ?_) (a' := ?_) #[true, true, true, true, false, true, true, false, false, false, false, false, false] rfl rfl (take_ofW HT_.out HW_.out (by kernel_rfl)) (fun _ _ _ h => h) (Or.inl ⟨by rfl, ?_⟩) hHeld ?_ ?_
                rotate_left
                · rintro w' ⟨s0, s1⟩
                  go_simp
                  with_reducible rfl
                rotate_left
                · simp only [Act.put, List.setIfInBounds_toArray, List.set_cons_zero, List.set_cons_succ, i64_w, i32_w]
                  rfl
                refine pure_ (i := 7) (N := some 20) (v := ?_) (a' := ?_) #[true, true, true, true, false, true, true, true, false, false, false, false, false] rfl rfl (any_of HT_.out (by kernel_rfl)) (fun _ _ _ h => h) (Or.inl ⟨by rfl, ?_⟩) ?_ ?_
                rotate_left
                · intro w'
                  go_simp
                  with_reducible rfl
                rotate_left
                · simp only [Act.put, List.setIfInBounds_toArray, List.set_cons_zero, List.set_cons_succ, i64_w, i32_w]
                  rfl
                refine pure_ (i := 8) (N := some 21) (v := ?_) (a' := ?_) #[true, true, true, true, false, true, true, true, true, false, false, false, false] rfl rfl (any_of HT_.out (by kernel_rfl)) (fun _ _ _ h => h) (Or.inl ⟨by rfl, ?_⟩) ?_ ?_
                rotate_left
                · intro w'
                  go_simp
                  with_reducible rfl
                rotate_left
                · simp only [Act.put, List.setIfInBounds_toArray, List.set_cons_zero, List.set_cons_succ, i64_w, i32_w]
                  rfl
                refine one_ (i := 4) (N := some 17) #[true, true, true, true, true, true, true, true, true, false, false, false, false] rfl rfl (one_of HT_.out (by kernel_rfl)) (by decide) (fun K hK => ?_)
                refine goes_ Tryd.func22 (by kernel_rfl) rfl #[.string (⟨#[35]⟩ : ByteArray), .int .i64 ji6] (by rfl) rfl rfl (by (try simp only [List.map_toArray, List.map_cons, List.map_nil]); first | done | (simp only [hji6]; rfl) | rfl | (simp only [List.length_drop, List.length_take]; rfl)) ?_
                with_reducible refine (strings_Repeat.calls (⟨#[35]⟩ : ByteArray) ji6 t135 _ A7.out).mono ?_
                rintro e w34 ⟨rfl, hb⟩
                refine ⟨_, rfl, ?_⟩
                have n0_ := Aside0.mk (blk_below (g := gb131) (o := .cells #[.int .i64 a0_0, .bool false] 23 (0, 0)) (by (with_reducible repeat (first | refine blk_drewN ?_ _ | refine blk_drew ?_ | refine blk_alloc ?_ _)); exact BK131.out) hb)
                have n1_ := Aside0.mk (blk_below (g := gb134) (o := .cells #[.int .i64 t132, .int .i64 t133] 49 (0, 0)) (by (with_reducible repeat (first | refine blk_drewN ?_ _ | refine blk_drew ?_ | refine blk_alloc ?_ _)); exact BK134.out) hb)
                have n2_ := Aside0.mk (below_step (by repeat (first | (with_reducible first | exact HB.out | apply below_alloc | apply pw_below_drewN | apply below_drew1 | refine below_set ?_ GE131.out | refine below_set ?_ GE134.out) | exact HB.out)) hb)
                clear BK131
                clear BK134
                clear HB
                have BK131 := n0_
                have BK134 := n1_
                have HB := n2_
                clear n0_ n1_ n2_
                (try clear hb)
                (try clear hb2)
                (try clear hk)
                (try clear hi)
                refine hK.out _ _ ⟨(blk_cell BK134.out 0).trans rfl, (blk_cell BK134.out 1).trans rfl⟩ (fun hHeld => ?_)
                clear hK K
                refine norm_ (a' := ?_) ?_ ?_
                rotate_left
                · show Act.put _ (some 17) _ = _
                  simp only [Act.put, List.setIfInBounds_toArray, List.set_cons_zero, List.set_cons_succ, i64_w, i32_w]
                  rfl
                refine one_ (i := 9) (N := some 22) #[true, true, true, true, true, true, true, true, true, true, false, false, false] rfl rfl (one_of HT_.out (by kernel_rfl)) (by decide) (fun K hK => ?_)
                refine goes_ Tryd.func22 (by kernel_rfl) rfl #[.string (⟨#[98]⟩ : ByteArray), .int .i64 ji8] (by rfl) rfl rfl (by (try simp only [List.map_toArray, List.map_cons, List.map_nil]); first | done | (simp only [hji8]; rfl) | rfl | (simp only [List.length_drop, List.length_take]; rfl)) ?_
                with_reducible refine (strings_Repeat.calls (⟨#[98]⟩ : ByteArray) ji8 t136 _ A9.out).mono ?_
                rintro e w35 ⟨rfl, hb⟩
                refine ⟨_, rfl, ?_⟩
                have n0_ := Aside0.mk (blk_below (g := gb131) (o := .cells #[.int .i64 a0_0, .bool false] 23 (0, 0)) (by (with_reducible repeat (first | refine blk_drewN ?_ _ | refine blk_drew ?_ | refine blk_alloc ?_ _)); exact BK131.out) hb)
                have n1_ := Aside0.mk (blk_below (g := gb134) (o := .cells #[.int .i64 t132, .int .i64 t133] 49 (0, 0)) (by (with_reducible repeat (first | refine blk_drewN ?_ _ | refine blk_drew ?_ | refine blk_alloc ?_ _)); exact BK134.out) hb)
                have n2_ := Aside0.mk (below_step (by repeat (first | (with_reducible first | exact HB.out | apply below_alloc | apply pw_below_drewN | apply below_drew1 | refine below_set ?_ GE131.out | refine below_set ?_ GE134.out) | exact HB.out)) hb)
                clear BK131
                clear BK134
                clear HB
                have BK131 := n0_
                have BK134 := n1_
                have HB := n2_
                clear n0_ n1_ n2_
                (try clear hb)
                (try clear hb2)
                (try clear hk)
                (try clear hi)
                refine hK.out _ _ ⟨(blk_cell BK134.out 0).trans rfl, (blk_cell BK134.out 1).trans rfl⟩ (fun hHeld => ?_)
                clear hK K
                refine norm_ (a' := ?_) ?_ ?_
                rotate_left
                · show Act.put _ (some 22) _ = _
                  simp only [Act.put, List.setIfInBounds_toArray, List.set_cons_zero, List.set_cons_succ, i64_w, i32_w]
                  rfl
                refine pure_ (i := 10) (N := some 23) (v := ?_) (a' := ?_) #[true, true, true, true, true, true, true, true, true, true, true, false, false] rfl rfl (any_of HT_.out (by kernel_rfl)) (fun _ _ _ h => h) (Or.inl ⟨by rfl, ?_⟩) ?_ ?_
                rotate_left
                · intro w'
                  go_simp
                  with_reducible rfl
                rotate_left
                · simp only [Act.put, List.setIfInBounds_toArray, List.set_cons_zero, List.set_cons_succ, i64_w, i32_w]
                  rfl
                refine pure_ (i := 11) (N := some 24) (v := ?_) (a' := ?_) #[true, true, true, true, true, true, true, true, true, true, true, true, false] rfl rfl (any_of HT_.out (by kernel_rfl)) (fun _ _ _ h => h) (Or.inl ⟨by rfl, ?_⟩) ?_ ?_
                rotate_left
                · intro w'
                  go_simp
                  with_reducible rfl
                rotate_left
                · simp only [Act.put, List.setIfInBounds_toArray, List.set_cons_zero, List.set_cons_succ, i64_w, i32_w]
                  rfl
                refine pure_ (i := 12) (N := some 4) (v := ?_) (a' := ?_) #[true, true, true, true, true, true, true, true, true, true, true, true, true] rfl rfl (any_of HT_.out (by kernel_rfl)) (fun _ _ _ h => h) (Or.inl ⟨by rfl, ?_⟩) ?_ ?_
                rotate_left
                · intro w'
                  go_simp
                  with_reducible rfl
                rotate_left
                · simp only [Act.put, List.setIfInBounds_toArray, List.set_cons_zero, List.set_cons_succ, i64_w, i32_w]
                  rfl
                refine done_ (done_of HT_.out (by kernel_rfl)) ?_
                have hcz36_0 : w35.cell? ⟨gb131, 0, none⟩ = some (.int .i64 a0_0) := (blk_cell BK131.out 0).trans rfl
                have hcz36_1 : w35.cell? ⟨gb131, 1, none⟩ = some (.bool false) := (blk_cell BK131.out 1).trans rfl
                have hfz36_0 := blk_frozen BK131.out 0
                have hfz36_1 := blk_frozen BK131.out 1
                try go_wp2
                go_ret
                exact ⟨by first | rfl | (simp [errW_none, errW_some] <;> rfl) | (simp only [← hji6, ← hji8]; first | rfl | (simp [errW_none, errW_some] <;> rfl)) | (simp [*, errW_none, errW_some] <;> rfl), by repeat (first | (with_reducible first | exact HB.out | apply below_alloc | apply pw_below_drewN | apply below_drew1 | refine below_set ?_ GE131.out | refine below_set ?_ GE134.out) | exact HB.out)⟩
              · rw [if_neg c25] at H
                exact absurd H (by simp)
          · rw [if_neg c11] at H
            exact absurd H (by simp)
        · rw [if_neg c10] at H
          exact absurd H (by simp)
      · rw [if_neg c5] at H
        exact absurd H (by simp)
    · rw [if_neg c4] at H
      exact absurd H (by simp)
  · rw [if_neg c3] at H
    exact absurd H (by simp)

end Go.Proofs.YtaanbojalolhnabDoor.M
