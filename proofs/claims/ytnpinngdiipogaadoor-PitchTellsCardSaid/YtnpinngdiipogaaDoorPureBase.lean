/- What the statements on pitches use: closed forms of the functions on pitches; the chapter's example holds. -/
import Derived.Test.YtnpinngdiipogaaDoorM10
import Derived.Test.YtnpinngdiipogaaDoorM12
set_option linter.unusedVariables false
set_option linter.unusedSimpArgs false
namespace Go.Proofs.YtnpinngdiipogaaDoor.Pure
open Go.RowKit Go.Proofs.YtnpinngdiipogaaDoor.M Go.Proofs.YtnpinngdiipogaaDoorW.PrintWords Go.Proofs.YtnpinngdiipogaaDoorW.PrintLast
set_option maxRecDepth 100000

/-- the half tones of a step above C -/
def hf (s : Int) : Int := if s < 3 then 2 * s else 2 * s - 1
def num (s a o : Int) : Int := 12 * (o + 1) + hf s + a
/-- a pitch is right -/
def R (s a o : Int) : Prop := 0 ≤ s ∧ s < 7 ∧ -2 ≤ a ∧ a ≤ 2 ∧ -1 ≤ o ∧ o ≤ 9 ∧ 0 ≤ num s a o ∧ num s a o ≤ 127
instance (s a o : Int) : Decidable (R s a o) := by unfold R; infer_instance
theorem hf_le {s : Int} (h0 : 0 ≤ s) (h1 : s < 7) : 0 ≤ hf s ∧ hf s ≤ 11 := by unfold hf; split <;> omega
theorem tab_hf {s : Int} (h0 : 0 ≤ s) (h1 : s < 7) : halfTab.getD s.toNat 0 = hf s := by
  have : s = 0 ∨ s = 1 ∨ s = 2 ∨ s = 3 ∨ s = 4 ∨ s = 5 ∨ s = 6 := by omega
  rcases this with rfl | rfl | rfl | rfl | rfl | rfl | rfl <;> rfl
theorem wr {x : Int} (h0 : -9223372036854775808 ≤ x) (h1 : x ≤ 9223372036854775807) : wrap64 x = x := by unfold wrap64; omega
theorem number_eq {s a o : Int} (h0 : 0 ≤ s) (h1 : s < 7) (h2 : -10000 ≤ a) (h3 : a ≤ 10000) (h4 : -10000 ≤ o) (h5 : o ≤ 10000) : pitch_number.f s a o = some (num s a o) := by
  have hh := hf_le h0 h1
  unfold pitch_number.f num
  rw [if_pos ⟨h0, h1⟩, tab_hf h0 h1, wr (x := o + 1) (by omega) (by omega), wr (x := 12 * (o + 1)) (by omega) (by omega), wr (x := 12 * (o + 1) + hf s) (by omega) (by omega), wr (by omega) (by omega)]
theorem line_eq {s a o : Int} (h0 : -10000 ≤ s) (h1 : s < 10000) (h4 : -10000 ≤ o) (h5 : o ≤ 10000) : pitch_line.f s a o = some (7 * o + s) := by
  unfold pitch_line.f
  rw [wr (x := 7 * o) (by omega) (by omega), wr (by omega) (by omega)]
theorem right_eq (s a o : Int) : pitch_Right.f s a o = some (decide (R s a o)) := by
  unfold pitch_Right.f
  by_cases h : 0 ≤ s ∧ s < 7 ∧ -2 ≤ a ∧ a ≤ 2 ∧ -1 ≤ o ∧ o ≤ 9
  · obtain ⟨h0, h1, h2, h3, h4, h5⟩ := h
    rw [if_neg (by omega), if_neg (by omega), if_neg (by omega), if_neg (by omega), if_neg (by omega), if_neg (by omega), number_eq h0 h1 (by omega) (by omega) (by omega) (by omega)]
    simp only [Option.bind_some]
    by_cases hn : num s a o ≥ 0
    · rw [if_pos hn]
      congr 1
      rw [decide_eq_decide]
      exact ⟨fun h => ⟨h0, h1, h2, h3, h4, h5, hn, h⟩, fun h => h.2.2.2.2.2.2.2⟩
    · rw [if_neg hn, decide_eq_false (fun h => hn h.2.2.2.2.2.2.1)]
  · have hR : ¬ R s a o := fun h' => h ⟨h'.1, h'.2.1, h'.2.2.1, h'.2.2.2.1, h'.2.2.2.2.1, h'.2.2.2.2.2.1⟩
    rw [decide_eq_false hR]
    by_cases c1 : s < 0
    · rw [if_pos c1]
    rw [if_neg c1]
    by_cases c2 : s ≥ 7
    · rw [if_pos c2]
    rw [if_neg c2]
    by_cases c3 : o < -1
    · rw [if_pos c3]
    rw [if_neg c3]
    by_cases c4 : o > 9
    · rw [if_pos c4]
    rw [if_neg c4]
    by_cases c5 : a < -2
    · rw [if_pos c5]
    rw [if_neg c5]
    by_cases c6 : a > 2
    · rw [if_pos c6]
    · exact absurd ⟨by omega, by omega, by omega, by omega, by omega, by omega⟩ h
theorem Number_eq (s a o : Int) : pitch_Number.f s a o = some (if R s a o then (num s a o, 0) else (0, 20)) := by
  unfold pitch_Number.f
  rw [right_eq]
  simp only [Option.bind_some, decide_eq_true_eq]
  by_cases h : R s a o
  · rw [if_pos h, if_pos h]
    obtain ⟨h0, h1, h2, h3, h4, h5, _, _⟩ := h
    rw [number_eq h0 h1 (by omega) (by omega) (by omega) (by omega)]
    rfl
  · rw [if_neg h, if_neg h]
theorem Line_eq (s a o : Int) : pitch_Line.f s a o = some (if R s a o then (7 * o + s, 0) else (0, 20)) := by
  unfold pitch_Line.f
  rw [right_eq]
  simp only [Option.bind_some, decide_eq_true_eq]
  by_cases h : R s a o
  · rw [if_pos h, if_pos h]
    obtain ⟨h0, h1, h2, h3, h4, h5, _, _⟩ := h
    rw [line_eq (by omega) (by omega) (by omega) (by omega)]
    rfl
  · rw [if_neg h, if_neg h]
/-- up by so many steps and half tones -/
def upS (s a o st h : Int) : Int × Int × Int × Int :=
  if R s a o ∧ -77 ≤ st ∧ st ≤ 77 ∧ -254 ≤ h ∧ h ≤ 254 ∧ 0 ≤ 7 * o + s + st + 7 ∧
    R ((7 * o + s + st + 7) % 7) (num s a o + h - num ((7 * o + s + st + 7) % 7) 0 ((7 * o + s + st + 7) / 7 - 1)) ((7 * o + s + st + 7) / 7 - 1)
  then ((7 * o + s + st + 7) % 7, num s a o + h - num ((7 * o + s + st + 7) % 7) 0 ((7 * o + s + st + 7) / 7 - 1), (7 * o + s + st + 7) / 7 - 1, 0) else (0, 0, 0, 20)
theorem tdiv_pos {x y : Int} (h : 0 ≤ x) : Int.tdiv x y = x / y := Int.tdiv_eq_ediv_of_nonneg h
theorem tmod_pos {x y : Int} (h : 0 ≤ x) : Int.tmod x y = x % y := Int.tmod_eq_emod_of_nonneg h
theorem Up_j {k : Nat} {b : Bool} {s a o st h : Int} (hR : b = false → R s a o ∧ -77 ≤ st ∧ st ≤ 77 ∧ -254 ≤ h ∧ h ≤ 254) (hb : b = true → ¬ (R s a o ∧ -77 ≤ st ∧ st ≤ 77 ∧ -254 ≤ h ∧ h ≤ 254)) :
    pitch_Up.j0 (k + 1) b s a o st h = some (upS s a o st h) := by
  simp only [pitch_Up.j0]
  cases b with
  | true =>
    rw [if_pos rfl]
    unfold upS
    rw [if_neg]
    intro h'
    exact hb rfl ⟨h'.1, h'.2.1, h'.2.2.1, h'.2.2.2.1, h'.2.2.2.2.1⟩
  | false =>
    obtain ⟨hr, k1, k2, k3, k4⟩ := hR rfl
    have hr' := hr
    obtain ⟨h0, h1, h2, h3, h4, h5, h6, h7⟩ := hr'
    rw [if_neg (by decide), line_eq (by omega) (by omega) (by omega) (by omega)]
    simp only [Option.bind_some]
    rw [wr (x := 7 * o + s + st) (by omega) (by omega), wr (x := 7 * o + s + st + 7) (by omega) (by omega)]
    by_cases ht : 7 * o + s + st + 7 < 0
    · rw [if_pos ht]
      unfold upS
      rw [if_neg]
      intro h'
      omega
    · rw [if_neg ht]
      have ht' : 0 ≤ 7 * o + s + st + 7 := by omega
      rw [tdiv_pos ht', tmod_pos ht', wr (x := (7 * o + s + st + 7) / 7) (by omega) (by omega), wr (x := (7 * o + s + st + 7) / 7 + -1) (by omega) (by omega)]
      rw [number_eq h0 h1 (by omega) (by omega) (by omega) (by omega), number_eq (by omega) (by omega) (by omega) (by omega) (by omega) (by omega)]
      simp only [Option.bind_some]
      have e1 : (7 * o + s + st + 7) / 7 + -1 = (7 * o + s + st + 7) / 7 - 1 := by omega
      rw [e1]
      have hq := hf_le (s := (7 * o + s + st + 7) % 7) (by omega) (by omega)
      have hn : -1000 ≤ num ((7 * o + s + st + 7) % 7) 0 ((7 * o + s + st + 7) / 7 - 1) ∧ num ((7 * o + s + st + 7) % 7) 0 ((7 * o + s + st + 7) / 7 - 1) ≤ 1000 := by
        unfold num; omega
      rw [wr (x := num s a o + h) (by omega) (by omega), wr (x := num s a o + h - _) (by omega) (by omega)]
      rw [right_eq]
      simp only [Option.bind_some, decide_eq_true_eq]
      unfold upS
      by_cases hf : R ((7 * o + s + st + 7) % 7) (num s a o + h - num ((7 * o + s + st + 7) % 7) 0 ((7 * o + s + st + 7) / 7 - 1)) ((7 * o + s + st + 7) / 7 - 1)
      · rw [if_pos hf, if_pos ⟨hr, k1, k2, k3, k4, ht', hf⟩]
      · rw [if_neg hf, if_neg (fun h' => hf h'.2.2.2.2.2.2)]
theorem Up_eq (k : Nat) (s a o st h : Int) : pitch_Up.f (k + 1) s a o st h = some (upS s a o st h) := by
  unfold pitch_Up.f
  rw [right_eq]
  simp only [Option.bind_some, decide_eq_true_eq]
  by_cases hr : R s a o
  · rw [if_pos hr]
    by_cases c1 : st < -77
    · rw [if_pos c1]
      exact Up_j (fun h' => by cases h') (fun _ h' => by omega)
    rw [if_neg c1]
    by_cases c2 : st > 77
    · rw [if_pos c2]
      exact Up_j (fun h' => by cases h') (fun _ h' => by omega)
    rw [if_neg c2]
    by_cases c3 : h < -254
    · rw [if_pos c3]
      exact Up_j (fun h' => by cases h') (fun _ h' => by omega)
    rw [if_neg c3]
    exact Up_j (fun h' => ⟨hr, by omega, by omega, by omega, by have := of_decide_eq_false h'; omega⟩) (fun h' k' => by have := of_decide_eq_true h'; omega)
  · rw [if_neg hr]
    exact Up_j (fun h' => by cases h') (fun _ h' => hr h'.1)
/-- how far b is above a -/
def betS (s a o t b p : Int) : Int × Int × Int := if R s a o ∧ R t b p then (7 * p + t - (7 * o + s), num t b p - num s a o, 0) else (0, 0, 20)
theorem Between_eq (k : Nat) (s a o t b p : Int) : pitch_Between.f (k + 1) s a o t b p = some (betS s a o t b p) := by
  unfold pitch_Between.f betS
  rw [right_eq]
  simp only [Option.bind_some, decide_eq_true_eq, pitch_Between.j0]
  by_cases h1 : R s a o
  · rw [if_pos h1, right_eq]
    simp only [Option.bind_some]
    by_cases h2 : R t b p
    · rw [decide_eq_true h2, if_neg (by decide), if_pos ⟨h1, h2⟩]
      obtain ⟨a0, a1, a2, a3, a4, a5, a6, a7⟩ := h1
      obtain ⟨b0, b1, b2, b3, b4, b5, b6, b7⟩ := h2
      rw [line_eq (by omega) (by omega) (by omega) (by omega), line_eq (by omega) (by omega) (by omega) (by omega), number_eq (by omega) (by omega) (by omega) (by omega) (by omega) (by omega), number_eq (by omega) (by omega) (by omega) (by omega) (by omega) (by omega)]
      simp only [Option.bind_some]
      rw [wr (x := 7 * p + t - (7 * o + s)) (by omega) (by omega), wr (x := num t b p - num s a o) (by omega) (by omega)]
    · rw [decide_eq_false h2, if_pos (show (!false) = true from rfl), if_neg (fun h => h2 h.2)]
  · rw [if_neg h1, if_pos trivial, if_neg (fun h => h1 h.1)]
/-- which one is the higher one -/
def cmpS (s a o t b p : Int) : Int := if R s a o ∧ R t b p then (if num s a o < num t b p then -1 else if num s a o > num t b p then 1 else if 7 * o + s < 7 * p + t then -1 else if 7 * o + s > 7 * p + t then 1 else 0) else 0
theorem ccmp (x y : Int) : cmp_Compare_int.f x y = some (if x < y then -1 else if x > y then 1 else 0) := by
  unfold cmp_Compare_int.f cmp_isNaN_int.f
  simp only [bne_self_eq_false, Option.bind_some, Bool.false_eq_true, if_false]
  split <;> (try rfl)
  split <;> rfl
theorem cor (k : Nat) (x y : Int) : cmp_Or_int.f (k + 3) [x, y] = some (if x = 0 then y else x) := by
  unfold cmp_Or_int.f
  by_cases hx : x = 0
  · by_cases hy : y = 0 <;> simp [cmp_Or_int.l0, rd, wrap64, hx, hy]
  · simp [cmp_Or_int.l0, rd, wrap64, hx]
theorem Compare_eq (k : Nat) (s a o t b p : Int) : pitch_Compare.f (k + 4) s a o t b p = some (cmpS s a o t b p) := by
  unfold pitch_Compare.f cmpS
  rw [right_eq]
  simp only [Option.bind_some, decide_eq_true_eq, pitch_Compare.j0]
  by_cases h1 : R s a o
  · rw [if_pos h1, right_eq]
    simp only [Option.bind_some]
    by_cases h2 : R t b p
    · rw [decide_eq_true h2, if_neg (by decide), if_pos ⟨h1, h2⟩]
      obtain ⟨a0, a1, a2, a3, a4, a5, a6, a7⟩ := h1
      obtain ⟨b0, b1, b2, b3, b4, b5, b6, b7⟩ := h2
      rw [number_eq (by omega) (by omega) (by omega) (by omega) (by omega) (by omega), number_eq (by omega) (by omega) (by omega) (by omega) (by omega) (by omega), line_eq (by omega) (by omega) (by omega) (by omega), line_eq (by omega) (by omega) (by omega) (by omega)]
      simp only [Option.bind_some, ccmp, cor]
      congr 1
      repeat' split
      all_goals omega
    · rw [decide_eq_false h2, if_pos (show (!false) = true from rfl), if_neg (fun h => h2 h.2)]
  · rw [if_neg h1, if_pos trivial, if_neg (fun h => h1 h.1)]

theorem wf64 {x : Int} (h : (Lit.int .i64 x).wf = true) : -9223372036854775808 ≤ x ∧ x ≤ 9223372036854775807 := by
  have h : IntKind.i64.min ≤ x ∧ x ≤ IntKind.i64.max := by simpa [Lit.wf] using h
  exact h
theorem pick_eq {c n : Int} (h : (Lit.int .i64 c).wf = true) (h0 : 0 < n) (h1 : n ≤ 1000000000) : ∃ r, partitalaw02_pick.f c n = some r ∧ 0 ≤ r ∧ r < n := by
  obtain ⟨b0, b1⟩ := wf64 h
  unfold partitalaw02_pick.f
  by_cases hc : c < 0
  · rw [if_pos hc, if_neg (by omega), wr (x := c + 1) (by omega) (by omega), wr (x := -(c + 1)) (by omega) (by omega), tmod_pos (by omega)]
    exact ⟨_, rfl, Int.emod_nonneg _ (by omega), Int.emod_lt_of_pos _ h0⟩
  · rw [if_neg hc, if_neg (by omega), tmod_pos (by omega)]
    exact ⟨_, rfl, Int.emod_nonneg _ (by omega), Int.emod_lt_of_pos _ h0⟩
theorem half_eq {s : Int} (h0 : -1000 ≤ s) (h1 : s < 1000) : partitaref02_half.f s = some (hf s) := by
  unfold partitaref02_half.f hf
  split
  · rw [wr (by omega) (by omega)]
  · rw [wr (x := 2 * s) (by omega) (by omega), wr (by omega) (by omega)]
theorem rright_eq (s a o : Int) : partitaref02_Right.f s a o = some (decide (R s a o)) := by
  unfold partitaref02_Right.f
  by_cases h : 0 ≤ s ∧ s < 7 ∧ -2 ≤ a ∧ a ≤ 2 ∧ -1 ≤ o ∧ o ≤ 9
  · obtain ⟨h0, h1, h2, h3, h4, h5⟩ := h
    have hh := hf_le h0 h1
    rw [if_neg (by omega), if_neg (by omega), if_neg (by omega), if_neg (by omega), if_neg (by omega), if_neg (by omega), half_eq (by omega) (by omega)]
    simp only [Option.bind_some]
    rw [wr (x := o + 1) (by omega) (by omega), wr (x := 12 * (o + 1)) (by omega) (by omega), wr (x := 12 * (o + 1) + hf s) (by omega) (by omega), wr (x := 12 * (o + 1) + hf s + a) (by omega) (by omega)]
    show (if num s a o ≥ 0 then some (decide (num s a o ≤ 127)) else some false) = _
    by_cases hn : num s a o ≥ 0
    · rw [if_pos hn]
      congr 1
      rw [decide_eq_decide]
      exact ⟨fun h => ⟨h0, h1, h2, h3, h4, h5, hn, h⟩, fun h => h.2.2.2.2.2.2.2⟩
    · rw [if_neg hn, decide_eq_false (fun h => hn h.2.2.2.2.2.2.1)]
  · have hR : ¬ R s a o := fun h' => h ⟨h'.1, h'.2.1, h'.2.2.1, h'.2.2.2.1, h'.2.2.2.2.1, h'.2.2.2.2.2.1⟩
    rw [decide_eq_false hR]
    by_cases c1 : s < 0
    · rw [if_pos c1]
    rw [if_neg c1]
    by_cases c2 : s > 6
    · rw [if_pos c2]
    rw [if_neg c2]
    by_cases c3 : a < -2
    · rw [if_pos c3]
    rw [if_neg c3]
    by_cases c4 : a > 2
    · rw [if_pos c4]
    rw [if_neg c4]
    by_cases c5 : o < -1
    · rw [if_pos c5]
    rw [if_neg c5]
    by_cases c6 : o > 9
    · rw [if_pos c6]
    · exact absurd ⟨by omega, by omega, by omega, by omega, by omega, by omega⟩ h
/-- of raw numbers a right pitch -/
theorem Pitch_eq {a b c : Int} (ha : (Lit.int .i64 a).wf = true) (hb : (Lit.int .i64 b).wf = true) (hc : (Lit.int .i64 c).wf = true) : ∃ s x o, partitalaw02_Pitch.f a b c = some (s, x, o) ∧ R s x o := by
  obtain ⟨s, e1, s0, s1⟩ := pick_eq (n := 7) ha (by omega) (by omega)
  obtain ⟨x, e2, x0, x1⟩ := pick_eq (n := 5) hb (by omega) (by omega)
  obtain ⟨o, e3, o0, o1⟩ := pick_eq (n := 11) hc (by omega) (by omega)
  unfold partitalaw02_Pitch.f
  rw [e1, e2, e3]
  simp only [Option.bind_some, rright_eq, decide_eq_true_eq]
  rw [wr (x := x - 2) (by omega) (by omega), wr (x := o - 1) (by omega) (by omega)]
  by_cases h : R s (x - 2) (o - 1)
  · rw [if_pos h]
    exact ⟨_, _, _, rfl, h⟩
  · rw [if_neg h]
    refine ⟨_, _, _, rfl, s0, s1, by omega, by omega, by omega, by omega, ?_, ?_⟩ <;> (have := hf_le s0 s1; unfold num; omega)
theorem awake_ok : partitalaw02_awake.f 1000 = some true := at_rounds (partitalaw02_awake.mono) (show 100 ≤ 1000 by decide) (by decide +kernel)
theorem Up_k (s a o st h : Int) : pitch_Up.f 1000 s a o st h = some (upS s a o st h) := Up_eq 999 s a o st h
theorem Between_k (s a o t b p : Int) : pitch_Between.f 1000 s a o t b p = some (betS s a o t b p) := Between_eq 999 s a o t b p
theorem Compare_k (s a o t b p : Int) : pitch_Compare.f 1000 s a o t b p = some (cmpS s a o t b p) := Compare_eq 996 s a o t b p
theorem betS_of {s a o t b p : Int} (h1 : R s a o) (h2 : R t b p) : betS s a o t b p = (7 * p + t - (7 * o + s), num t b p - num s a o, 0) := by
  unfold betS
  rw [if_pos ⟨h1, h2⟩]
theorem upS_to {s x o t y p st h : Int} (r1 : R s x o) (r2 : R t y p) (hs : st = 7 * p + t - (7 * o + s)) (hh : h = num t y p - num s x o) : upS s x o st h = (t, y, p, 0) := by
  subst hs hh
  unfold upS
  have r1' := r1
  have r2' := r2
  obtain ⟨a0, a1, a2, a3, a4, a5, a6, a7⟩ := r1'
  obtain ⟨b0, b1, b2, b3, b4, b5, b6, b7⟩ := r2'
  have e : 7 * o + s + (7 * p + t - (7 * o + s)) + 7 = 7 * (p + 1) + t := by omega
  have e1 : (7 * (p + 1) + t) % 7 = t := by omega
  have e2 : (7 * (p + 1) + t) / 7 - 1 = p := by omega
  have e3 : num s x o + (num t y p - num s x o) - num t 0 p = y := by unfold num; omega
  rw [e, e1, e2, e3]
  rw [if_pos ⟨r1, by omega, by omega, by omega, by omega, by omega, r2⟩]
theorem upS_not {s x o st h : Int} (hn : ∀ t y p, R t y p → st = 7 * p + t - (7 * o + s) → h = num t y p - num s x o → False) : upS s x o st h = (0, 0, 0, 20) := by
  unfold upS
  rw [if_neg]
  intro h'
  obtain ⟨r, _, _, _, _, h0, h1⟩ := h'
  refine hn _ _ _ h1 (by omega) ?_
  unfold num
  omega
end Go.Proofs.YtnpinngdiipogaaDoor.Pure
