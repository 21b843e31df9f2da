/- What the reference tells of pitches is what the program tells. -/
import Derived.Test.YtnpinngdiipogaaDoorM13
import Derived.Test.YtnpinngdiipogaaDoorM14
import Derived.Test.YtnpinngdiipogaaDoorM15
import Derived.Test.YtnpinngdiipogaaDoorM16
import Derived.Test.YtnpinngdiipogaaDoorM17
import Derived.Test.YtnpinngdiipogaaDoorM18
import Derived.Test.YtnpinngdiipogaaDoorPureTextBase
set_option linter.unusedVariables false
set_option linter.unusedSimpArgs false
namespace Go.Proofs.YtnpinngdiipogaaDoor.Pure
open Go.RowKit Go.Proofs.YtnpinngdiipogaaDoor.M Go.Proofs.YtnpinngdiipogaaDoorW.PrintWords Go.Proofs.YtnpinngdiipogaaDoorW.PrintLast
set_option maxRecDepth 100000

theorem rNumber_eq (s a o : Int) : partitaref02_Number.f s a o = some (if R s a o then (num s a o, 0) else (0, 20)) := by
  unfold partitaref02_Number.f
  rw [rright_eq]
  simp only [Option.bind_some, decide_eq_true_eq]
  by_cases h : R s a o
  · rw [if_pos h, if_pos h]
    obtain ⟨h0, h1, h2, h3, h4, h5, h6, h7⟩ := h
    have hh := hf_le h0 h1
    rw [half_eq (by omega) (by omega), Option.bind_some, wr (x := o + 1) (by omega) (by omega), wr (x := 12 * (o + 1)) (by omega) (by omega), wr (x := 12 * (o + 1) + hf s) (by omega) (by omega), wr (x := 12 * (o + 1) + hf s + a) (by omega) (by omega)]
    rfl
  · rw [if_neg h, if_neg h]
theorem rLine_eq (s a o : Int) : partitaref02_Line.f s a o = some (if R s a o then (7 * o + s, 0) else (0, 20)) := by
  unfold partitaref02_Line.f
  rw [rright_eq]
  simp only [Option.bind_some, decide_eq_true_eq]
  by_cases h : R s a o
  · rw [if_pos h, if_pos h]
    obtain ⟨h0, h1, h2, h3, h4, h5, h6, h7⟩ := h
    rw [wr (x := 7 * o) (by omega) (by omega), wr (x := 7 * o + s) (by omega) (by omega)]
  · rw [if_neg h, if_neg h]
theorem rBetween_eq (k : Nat) (s a o t b p : Int) : partitaref02_Between.f (k + 1) s a o t b p = some (betS s a o t b p) := by
  unfold partitaref02_Between.f betS
  rw [rLine_eq, rLine_eq, Option.bind_some, Option.bind_some, partitaref02_Between.j0, partitaref02_Between.j0]
  by_cases h1 : R s a o
  · by_cases h2 : R t b p
    · rw [if_pos h1, if_pos h2, if_pos (c := R s a o ∧ R t b p) ⟨h1, h2⟩]
      dsimp only
      rw [if_pos rfl, if_neg (by decide), rNumber_eq, rNumber_eq, if_pos h1, if_pos h2, Option.bind_some, Option.bind_some]
      obtain ⟨a0, a1, a2, a3, a4, a5, a6, a7⟩ := h1
      obtain ⟨b0, b1, b2, b3, b4, b5, b6, b7⟩ := h2
      rw [wr (x := 7 * p + t - (7 * o + s)) (by omega) (by omega), wr (x := num t b p - num s a o) (by omega) (by omega)]
    · rw [if_pos h1, if_neg h2, if_neg (c := R s a o ∧ R t b p) (fun h => h2 h.2)]
      dsimp only
      rw [if_pos rfl, if_pos (by decide)]
  · rw [if_neg h1, if_neg (c := R s a o ∧ R t b p) (fun h => h1 h.1)]
    dsimp only
    rw [if_neg (by decide), if_pos rfl]
theorem rCompare_eq (k : Nat) (s a o t b p : Int) : partitaref02_Compare.f (k + 1) s a o t b p = some (cmpS s a o t b p) := by
  unfold partitaref02_Compare.f cmpS
  rw [rBetween_eq, Option.bind_some]
  unfold betS
  by_cases h : R s a o ∧ R t b p
  · rw [if_pos h, if_pos h]
    dsimp only
    rw [if_pos rfl, partitaref02_Compare.j0, partitaref02_Compare.j0, partitaref02_Compare.j0]
    by_cases c1 : num s a o < num t b p
    · rw [if_pos (by omega), if_pos rfl, if_pos c1]
    rw [if_neg (by omega), if_neg c1]
    by_cases c2 : num s a o > num t b p
    · rw [if_neg (by omega), if_neg (by decide), if_pos (by omega), if_pos c2]
    rw [if_pos (by omega), if_neg c2]
    by_cases c3 : 7 * o + s < 7 * p + t
    · rw [if_pos (by rw [decide_eq_true_iff]; omega), if_pos c3]
    rw [if_neg (by rw [decide_eq_true_iff]; omega), if_neg (by omega), if_neg c3]
    by_cases c4 : 7 * o + s > 7 * p + t
    · rw [if_pos (by omega), if_pos c4]
    · rw [if_neg (by omega), if_neg c4]
  · rw [if_neg h, if_neg h]
    rfl
/-- the pitch of a line and a number, if there is one -/
def upG (s a o st h : Int) : Int × Int × Int × Int :=
  if R s a o ∧ 0 ≤ 7 * o + s + st + 7 ∧ R ((7 * o + s + st + 7) % 7) (num s a o + h - num ((7 * o + s + st + 7) % 7) 0 ((7 * o + s + st + 7) / 7 - 1)) ((7 * o + s + st + 7) / 7 - 1)
  then ((7 * o + s + st + 7) % 7, num s a o + h - num ((7 * o + s + st + 7) % 7) 0 ((7 * o + s + st + 7) / 7 - 1), (7 * o + s + st + 7) / 7 - 1, 0) else (0, 0, 0, 20)
theorem up_bounds {s a o st h : Int} (r : R s a o) (r2 : R ((7 * o + s + st + 7) % 7) (num s a o + h - num ((7 * o + s + st + 7) % 7) 0 ((7 * o + s + st + 7) / 7 - 1)) ((7 * o + s + st + 7) / 7 - 1)) : -77 ≤ st ∧ st ≤ 77 ∧ -200 ≤ h ∧ h ≤ 200 := by
  obtain ⟨a0, a1, a2, a3, a4, a5, a6, a7⟩ := r
  obtain ⟨b0, b1, b2, b3, b4, b5, b6, b7⟩ := r2
  have e : num ((7 * o + s + st + 7) % 7) (num s a o + h - num ((7 * o + s + st + 7) % 7) 0 ((7 * o + s + st + 7) / 7 - 1)) ((7 * o + s + st + 7) / 7 - 1) = num s a o + h := by
    unfold num; omega
  rw [e] at b6 b7
  omega
theorem upS_upG (s a o st h : Int) : upS s a o st h = upG s a o st h := by
  unfold upS upG
  by_cases c : R s a o ∧ 0 ≤ 7 * o + s + st + 7 ∧ R ((7 * o + s + st + 7) % 7) (num s a o + h - num ((7 * o + s + st + 7) % 7) 0 ((7 * o + s + st + 7) / 7 - 1)) ((7 * o + s + st + 7) / 7 - 1)
  · obtain ⟨b1, b2, b3, b4⟩ := up_bounds c.1 c.2.2
    rw [if_pos c, if_pos ⟨c.1, b1, b2, by omega, by omega, c.2.1, c.2.2⟩]
  · rw [if_neg c, if_neg (fun h' => c ⟨h'.1, h'.2.2.2.2.2.1, h'.2.2.2.2.2.2⟩)]
theorem rUp_loop {L n st h : Int} (hL : -7 ≤ L) (hL2 : L ≤ 69) (hn : 0 ≤ n) (hn2 : n ≤ 127) (hs : -100 ≤ st) (hs2 : st ≤ 100) (hh : -200 ≤ h) (hh2 : h ≤ 200) (hT : 0 ≤ L + st + 7) : ∀ (d : Nat) (al : Int) (k : Nat), al + d = 3 → -2 ≤ al → d + 1 ≤ k →
    partitaref02_Up.l0 k L n al st h = some (if R ((L + st + 7) % 7) (n + h - num ((L + st + 7) % 7) 0 ((L + st + 7) / 7 - 1)) ((L + st + 7) / 7 - 1) ∧ al ≤ n + h - num ((L + st + 7) % 7) 0 ((L + st + 7) / 7 - 1) then ((L + st + 7) % 7, n + h - num ((L + st + 7) % 7) 0 ((L + st + 7) / 7 - 1), (L + st + 7) / 7 - 1, 0) else (0, 0, 0, 20)) := by
  intro d
  induction d with
  | zero =>
    intro al k h1 h2 hk
    obtain ⟨k, rfl⟩ : ∃ m, k = m + 1 := ⟨k - 1, by omega⟩
    rw [partitaref02_Up.l0, if_neg (by omega), if_neg]
    intro h'
    have := h'.1.2.2.2.1
    omega
  | succ d ih =>
    intro al k h1 h2 hk
    obtain ⟨k, rfl⟩ : ∃ m, k = m + 1 := ⟨k - 1, by omega⟩
    rw [partitaref02_Up.l0, if_pos (by omega), wr (x := L + st) (by omega) (by omega), wr (x := L + st + 7) (by omega) (by omega), if_neg (by omega), tdiv_pos hT, tmod_pos hT, wr (x := (L + st + 7) / 7) (by omega) (by omega), wr (x := (L + st + 7) / 7 - 1) (by omega) (by omega), rNumber_eq, Option.bind_some, wr (x := n + h) (by omega) (by omega), wr (x := al + 1) (by omega) (by omega)]
    have e : num ((L + st + 7) % 7) al ((L + st + 7) / 7 - 1) = num ((L + st + 7) % 7) 0 ((L + st + 7) / 7 - 1) + al := by unfold num; omega
    have IH := ih (al + 1) k (by omega) (by omega) (by omega)
    by_cases hr : R ((L + st + 7) % 7) al ((L + st + 7) / 7 - 1)
    · rw [if_pos hr]
      dsimp only
      rw [if_pos rfl]
      by_cases hq : num ((L + st + 7) % 7) al ((L + st + 7) / 7 - 1) = n + h
      · rw [if_pos hq]
        have ea : n + h - num ((L + st + 7) % 7) 0 ((L + st + 7) / 7 - 1) = al := by omega
        rw [ea, if_pos ⟨hr, Int.le_refl _⟩]
      · rw [if_neg hq, IH]
        congr 1
        by_cases c : R ((L + st + 7) % 7) (n + h - num ((L + st + 7) % 7) 0 ((L + st + 7) / 7 - 1)) ((L + st + 7) / 7 - 1) ∧ al ≤ n + h - num ((L + st + 7) % 7) 0 ((L + st + 7) / 7 - 1)
        · rw [if_pos c, if_pos ⟨c.1, by omega⟩]
        · rw [if_neg c, if_neg (fun h' => c ⟨h'.1, by omega⟩)]
    · rw [if_neg hr]
      dsimp only
      rw [if_neg (by decide), IH]
      congr 1
      by_cases c : R ((L + st + 7) % 7) (n + h - num ((L + st + 7) % 7) 0 ((L + st + 7) / 7 - 1)) ((L + st + 7) / 7 - 1) ∧ al ≤ n + h - num ((L + st + 7) % 7) 0 ((L + st + 7) / 7 - 1)
      · have hne : al ≠ n + h - num ((L + st + 7) % 7) 0 ((L + st + 7) / 7 - 1) := fun h' => hr (by rw [h']; exact c.1)
        rw [if_pos c, if_pos ⟨c.1, by omega⟩]
      · rw [if_neg c, if_neg (fun h' => c ⟨h'.1, by omega⟩)]
theorem rUp_eq (k : Nat) (hk : 10 ≤ k) (s a o st h : Int) : partitaref02_Up.f k s a o st h = some (upG s a o st h) := by
  unfold partitaref02_Up.f
  obtain ⟨k, rfl⟩ : ∃ m, k = m + 1 := ⟨k - 1, by omega⟩
  rw [rLine_eq, rNumber_eq, Option.bind_some, Option.bind_some]
  by_cases hr : R s a o
  · rw [if_pos hr, if_pos hr]
    dsimp only
    rw [if_pos rfl]
    have no : ∀ b : Bool, b = true → ((-77 ≤ st ∧ st ≤ 77 ∧ -200 ≤ h ∧ h ≤ 200) → False) → partitaref02_Up.j0 (k + 1) (7 * o + s) (num s a o) b st h = some (upG s a o st h) := by
      intro b hb hn
      rw [partitaref02_Up.j0, if_pos hb]
      unfold upG
      rw [if_neg]
      intro h'
      exact hn (up_bounds h'.1 h'.2.2)
    by_cases c1 : st < -100
    · rw [if_pos c1]; exact no true rfl (by omega)
    rw [if_neg c1]
    by_cases c2 : st > 100
    · rw [if_pos c2]; exact no true rfl (by omega)
    rw [if_neg c2]
    by_cases c3 : h < -200
    · rw [if_pos c3]; exact no true rfl (by omega)
    rw [if_neg c3]
    by_cases c4 : h > 200
    · exact no _ (by rw [decide_eq_true_iff]; exact c4) (by omega)
    rw [partitaref02_Up.j0, if_neg (by rw [decide_eq_true_iff]; exact c4)]
    have hr' := hr
    obtain ⟨a0, a1, a2, a3, a4, a5, a6, a7⟩ := hr'
    by_cases hT : 0 ≤ 7 * o + s + st + 7
    · rw [rUp_loop (by omega) (by omega) a6 a7 (by omega) (by omega) (by omega) (by omega) hT 5 (-2) k (by omega) (by omega) (by omega)]
      unfold upG
      congr 1
      by_cases c : R ((7 * o + s + st + 7) % 7) (num s a o + h - num ((7 * o + s + st + 7) % 7) 0 ((7 * o + s + st + 7) / 7 - 1)) ((7 * o + s + st + 7) / 7 - 1)
      · rw [if_pos ⟨c, c.2.2.1⟩, if_pos ⟨hr, hT, c⟩]
      · rw [if_neg (fun h' => c h'.1), if_neg (fun h' => c h'.2.2)]
    · obtain ⟨k, rfl⟩ : ∃ m, k = m + 1 := ⟨k - 1, by omega⟩
      rw [partitaref02_Up.l0, if_pos (by decide), wr (x := 7 * o + s + st) (by omega) (by omega), wr (x := 7 * o + s + st + 7) (by omega) (by omega), if_pos (by omega)]
      unfold upG
      rw [if_neg (fun h' => hT h'.2.1)]
  · rw [if_neg hr, if_neg hr]
    dsimp only
    rw [if_neg (by decide), partitaref02_Up.j0, if_pos rfl]
    unfold upG
    rw [if_neg (fun h' => hr h'.1)]
def rtB (s a o : Int) : Bool := decide (R s a o) == false || (match partitaref02_Text.f 20 s a o, pitch_Text.f s a o with | some x, some y => x.1.data.toList == y.1.data.toList && x.2 == y.2 | _, _ => false)
theorem same_data {a b : ByteArray} (h : a.data.toList = b.data.toList) : a = b := by
  obtain ⟨⟨x⟩⟩ := a
  obtain ⟨⟨y⟩⟩ := b
  obtain rfl : x = y := h
  rfl
theorem rt_0 : ∀ s : Fin 7, ∀ a : Fin 5, rtB (s.val : Int) (-2 + (a.val : Int)) (-1) = true := by decide +kernel
theorem rt_1 : ∀ s : Fin 7, ∀ a : Fin 5, rtB (s.val : Int) (-2 + (a.val : Int)) 0 = true := by decide +kernel
theorem rt_2 : ∀ s : Fin 7, ∀ a : Fin 5, rtB (s.val : Int) (-2 + (a.val : Int)) 1 = true := by decide +kernel
theorem rt_3 : ∀ s : Fin 7, ∀ a : Fin 5, rtB (s.val : Int) (-2 + (a.val : Int)) 2 = true := by decide +kernel
theorem rt_4 : ∀ s : Fin 7, ∀ a : Fin 5, rtB (s.val : Int) (-2 + (a.val : Int)) 3 = true := by decide +kernel
theorem rt_5 : ∀ s : Fin 7, ∀ a : Fin 5, rtB (s.val : Int) (-2 + (a.val : Int)) 4 = true := by decide +kernel
theorem rt_6 : ∀ s : Fin 7, ∀ a : Fin 5, rtB (s.val : Int) (-2 + (a.val : Int)) 5 = true := by decide +kernel
theorem rt_7 : ∀ s : Fin 7, ∀ a : Fin 5, rtB (s.val : Int) (-2 + (a.val : Int)) 6 = true := by decide +kernel
theorem rt_8 : ∀ s : Fin 7, ∀ a : Fin 5, rtB (s.val : Int) (-2 + (a.val : Int)) 7 = true := by decide +kernel
theorem rt_9 : ∀ s : Fin 7, ∀ a : Fin 5, rtB (s.val : Int) (-2 + (a.val : Int)) 8 = true := by decide +kernel
theorem rt_10 : ∀ s : Fin 7, ∀ a : Fin 5, rtB (s.val : Int) (-2 + (a.val : Int)) 9 = true := by decide +kernel
theorem cases385 {Q : Int → Int → Int → Prop} (q0 : ∀ s : Fin 7, ∀ a : Fin 5, Q (s.val : Int) (-2 + (a.val : Int)) (-1)) (q1 : ∀ s : Fin 7, ∀ a : Fin 5, Q (s.val : Int) (-2 + (a.val : Int)) 0) (q2 : ∀ s : Fin 7, ∀ a : Fin 5, Q (s.val : Int) (-2 + (a.val : Int)) 1) (q3 : ∀ s : Fin 7, ∀ a : Fin 5, Q (s.val : Int) (-2 + (a.val : Int)) 2) (q4 : ∀ s : Fin 7, ∀ a : Fin 5, Q (s.val : Int) (-2 + (a.val : Int)) 3) (q5 : ∀ s : Fin 7, ∀ a : Fin 5, Q (s.val : Int) (-2 + (a.val : Int)) 4) (q6 : ∀ s : Fin 7, ∀ a : Fin 5, Q (s.val : Int) (-2 + (a.val : Int)) 5) (q7 : ∀ s : Fin 7, ∀ a : Fin 5, Q (s.val : Int) (-2 + (a.val : Int)) 6) (q8 : ∀ s : Fin 7, ∀ a : Fin 5, Q (s.val : Int) (-2 + (a.val : Int)) 7) (q9 : ∀ s : Fin 7, ∀ a : Fin 5, Q (s.val : Int) (-2 + (a.val : Int)) 8) (q10 : ∀ s : Fin 7, ∀ a : Fin 5, Q (s.val : Int) (-2 + (a.val : Int)) 9) {s a o : Int} (r : R s a o) : Q s a o := by
  obtain ⟨h0, h1, h2, h3, h4, h5, h6, h7⟩ := r
  obtain ⟨i, hi, rfl⟩ : ∃ i : Nat, i < 7 ∧ s = (i : Int) := ⟨s.toNat, by omega, by omega⟩
  obtain ⟨j, hj, rfl⟩ : ∃ j : Nat, j < 5 ∧ a = -2 + (j : Int) := ⟨(a + 2).toNat, by omega, by omega⟩
  have ho : o = -1 ∨ o = 0 ∨ o = 1 ∨ o = 2 ∨ o = 3 ∨ o = 4 ∨ o = 5 ∨ o = 6 ∨ o = 7 ∨ o = 8 ∨ o = 9 := by omega
  rcases ho with rfl | rfl | rfl | rfl | rfl | rfl | rfl | rfl | rfl | rfl | rfl
  · exact q0 ⟨i, hi⟩ ⟨j, hj⟩
  · exact q1 ⟨i, hi⟩ ⟨j, hj⟩
  · exact q2 ⟨i, hi⟩ ⟨j, hj⟩
  · exact q3 ⟨i, hi⟩ ⟨j, hj⟩
  · exact q4 ⟨i, hi⟩ ⟨j, hj⟩
  · exact q5 ⟨i, hi⟩ ⟨j, hj⟩
  · exact q6 ⟨i, hi⟩ ⟨j, hj⟩
  · exact q7 ⟨i, hi⟩ ⟨j, hj⟩
  · exact q8 ⟨i, hi⟩ ⟨j, hj⟩
  · exact q9 ⟨i, hi⟩ ⟨j, hj⟩
  · exact q10 ⟨i, hi⟩ ⟨j, hj⟩
theorem text_tot (s a o : Int) : ∃ t e, pitch_Text.f s a o = some (t, e) ∧ (e = 0 → R s a o) := by
  by_cases h : R s a o
  · obtain ⟨t, h1, _⟩ := text_back h
    exact ⟨t, 0, h1, fun _ => h⟩
  · refine ⟨⟨#[]⟩, 20, ?_, fun h => absurd h (by decide)⟩
    unfold pitch_Text.f
    rw [right_eq, decide_eq_false h]
    rfl
theorem rText_eq (k : Nat) (hk : 20 ≤ k) (s a o : Int) : partitaref02_Text.f k s a o = pitch_Text.f s a o := by
  by_cases h : R s a o
  · have hb : rtB s a o = true := cases385 (Q := fun s a o => rtB s a o = true) rt_0 rt_1 rt_2 rt_3 rt_4 rt_5 rt_6 rt_7 rt_8 rt_9 rt_10 h
    unfold rtB at hb
    rw [decide_eq_true h, Bool.or_eq_true] at hb
    have hb2 := hb.resolve_left (by decide)
    obtain ⟨t, h1, _⟩ := text_back h
    rw [h1] at hb2 ⊢
    cases hr : partitaref02_Text.f 20 s a o with
    | none => rw [hr] at hb2; cases hb2
    | some u =>
      rw [hr] at hb2
      obtain ⟨u, e⟩ := u
      simp only [Bool.and_eq_true, beq_iff_eq] at hb2
      rw [same_data hb2.1, hb2.2] at hr
      exact at_rounds (partitaref02_Text.mono _ _ _) hk hr
  · unfold partitaref02_Text.f pitch_Text.f
    rw [rright_eq, right_eq, decide_eq_false h]
    rfl
theorem bt_ge (s : ByteArray) (i : Int) : 0 ≤ bt s i ∧ bt s i ≤ 255 := by
  unfold bt
  split
  · exact ⟨by omega, by have := (s[i.toNat]'(by assumption)).toNat_lt; omega⟩
  · decide
/-- a reading: a right pitch whose text it is, or none -/
def Told (s : ByteArray) (r : Option (Int × Int × Int × Int)) : Prop := (∃ x a o, r = some (x, a, o, 0) ∧ R x a o ∧ pitch_Text.f x a o = some (s, 0)) ∨ r = some (0, 0, 0, 21)
theorem rr_l1 (s : ByteArray) (oct x : Int) (K0 : Nat) (nxt : ∀ k, K0 ≤ k → Told s (partitaref02_Read.l0 k s oct (wrap64 (x + 1)))) (h20 : 30 ≤ K0) : ∀ (d : Nat) (al : Int) (k : Nat), al + d = 3 → -2 ≤ al → K0 + d + 1 ≤ k → Told s (partitaref02_Read.l1 k s oct x al) := by
  intro d
  induction d with
  | zero =>
    intro al k h1 h2 hk
    obtain ⟨k, rfl⟩ : ∃ m, k = m + 1 := ⟨k - 1, by omega⟩
    rw [partitaref02_Read.l1, if_neg (by omega)]
    exact nxt k (by omega)
  | succ d ih =>
    intro al k h1 h2 hk
    obtain ⟨k, rfl⟩ : ∃ m, k = m + 1 := ⟨k - 1, by omega⟩
    have IH := ih (al + 1) k (by omega) (by omega) (by omega)
    rw [partitaref02_Read.l1, if_pos (by omega), rText_eq k (by omega), wr (x := al + 1) (by omega) (by omega)]
    obtain ⟨t, e, ht, hr⟩ := text_tot x al oct
    rw [ht, Option.bind_some]
    dsimp only
    by_cases he : e = 0
    · rw [if_pos he]
      by_cases hq : t.toList = s.toList
      · rw [if_pos hq]
        refine .inl ⟨x, al, oct, rfl, hr he, ?_⟩
        rw [ht, he, same_bytes hq]
      · rw [if_neg hq]; exact IH
    · rw [if_neg he]; exact IH
theorem rr_l0 (s : ByteArray) (oct : Int) : ∀ (d : Nat) (x : Int) (k : Nat), x + d = 7 → 0 ≤ x → 8 * d + 40 ≤ k → Told s (partitaref02_Read.l0 k s oct x) := by
  intro d
  induction d with
  | zero =>
    intro x k h1 h2 hk
    obtain ⟨k, rfl⟩ : ∃ m, k = m + 1 := ⟨k - 1, by omega⟩
    rw [partitaref02_Read.l0, if_neg (by omega)]
    exact .inr rfl
  | succ d ih =>
    intro x k h1 h2 hk
    obtain ⟨k, rfl⟩ : ∃ m, k = m + 1 := ⟨k - 1, by omega⟩
    rw [partitaref02_Read.l0, if_pos (by omega)]
    refine rr_l1 s oct x (8 * d + 40) (fun k' hk' => ?_) (by omega) 5 (-2) k (by omega) (by omega) (by omega)
    rw [wr (x := x + 1) (by omega) (by omega)]
    exact ih (x + 1) k' (by omega) (by omega) hk'
theorem rRead_tells (s : ByteArray) (hs : s.size ≤ 30) (k : Nat) (hk : 200 ≤ k) : Told s (partitaref02_Read.f k s) := by
  obtain ⟨k, rfl⟩ : ∃ m, k = m + 2 := ⟨k - 2, by omega⟩
  unfold partitaref02_Read.f
  by_cases h1 : (s.size : Int) < 2
  · rw [if_pos h1, partitaref02_Read.j0, if_pos rfl]
    exact .inr rfl
  · rw [if_neg h1, partitaref02_Read.j0]
    by_cases h2 : (s.size : Int) > 5
    · rw [if_pos (by rw [decide_eq_true_iff]; exact h2)]
      exact .inr rfl
    · rw [if_neg (by rw [decide_eq_true_iff]; exact h2), wr (x := (s.size : Int) - 1) (by omega) (by omega), wr (x := (s.size : Int) - 2) (by omega) (by omega), if_pos (by omega), if_pos (by omega), if_pos (by omega), if_pos (by omega)]
      split
      · rw [partitaref02_Read.j1]
        exact rr_l0 s _ 7 0 k (by omega) (by omega) (by omega)
      · rw [partitaref02_Read.j1]
        exact rr_l0 s _ 7 0 k (by omega) (by omega) (by omega)
def rrB (s a o : Int) : Bool := decide (R s a o) == false || (match pitch_Text.f s a o with | some x => (match partitaref02_Read.f 200 x.1 with | some r => r.2.2.2 == 0 | none => false) | none => false)
theorem rr_0 : ∀ s : Fin 7, ∀ a : Fin 5, rrB (s.val : Int) (-2 + (a.val : Int)) (-1) = true := by decide +kernel
theorem rr_1 : ∀ s : Fin 7, ∀ a : Fin 5, rrB (s.val : Int) (-2 + (a.val : Int)) 0 = true := by decide +kernel
theorem rr_2 : ∀ s : Fin 7, ∀ a : Fin 5, rrB (s.val : Int) (-2 + (a.val : Int)) 1 = true := by decide +kernel
theorem rr_3 : ∀ s : Fin 7, ∀ a : Fin 5, rrB (s.val : Int) (-2 + (a.val : Int)) 2 = true := by decide +kernel
theorem rr_4 : ∀ s : Fin 7, ∀ a : Fin 5, rrB (s.val : Int) (-2 + (a.val : Int)) 3 = true := by decide +kernel
theorem rr_5 : ∀ s : Fin 7, ∀ a : Fin 5, rrB (s.val : Int) (-2 + (a.val : Int)) 4 = true := by decide +kernel
theorem rr_6 : ∀ s : Fin 7, ∀ a : Fin 5, rrB (s.val : Int) (-2 + (a.val : Int)) 5 = true := by decide +kernel
theorem rr_7 : ∀ s : Fin 7, ∀ a : Fin 5, rrB (s.val : Int) (-2 + (a.val : Int)) 6 = true := by decide +kernel
theorem rr_8 : ∀ s : Fin 7, ∀ a : Fin 5, rrB (s.val : Int) (-2 + (a.val : Int)) 7 = true := by decide +kernel
theorem rr_9 : ∀ s : Fin 7, ∀ a : Fin 5, rrB (s.val : Int) (-2 + (a.val : Int)) 8 = true := by decide +kernel
theorem rr_10 : ∀ s : Fin 7, ∀ a : Fin 5, rrB (s.val : Int) (-2 + (a.val : Int)) 9 = true := by decide +kernel
theorem rRead_eq (s : ByteArray) (hs : s.size ≤ 30) (k : Nat) (hk : 200 ≤ k) : partitaref02_Read.f k s = pitch_Read.f s := by
  obtain ⟨x, a, o, e, h1, h2⟩ := read_tells s (by omega)
  rw [h1]
  rcases h2 with ⟨rfl, hr, ht⟩ | ⟨rfl, rfl, rfl, rfl⟩
  · have hb : rrB x a o = true := cases385 (Q := fun s a o => rrB s a o = true) rr_0 rr_1 rr_2 rr_3 rr_4 rr_5 rr_6 rr_7 rr_8 rr_9 rr_10 hr
    unfold rrB at hb
    rw [decide_eq_true hr, Bool.or_eq_true, ht] at hb
    have hb2 := hb.resolve_left (by decide)
    rcases rRead_tells s hs k hk with ⟨x', a', o', g1, g2, g3⟩ | g1
    · rw [g1]
      obtain ⟨t, u1, _, _, u4⟩ := text_back g2
      rw [g3] at u1
      obtain rfl : s = t := by simp only [Option.some.injEq, Prod.mk.injEq] at u1; exact u1.1
      rw [h1] at u4
      exact u4.symm
    · exfalso
      dsimp only at hb2
      cases hr2 : partitaref02_Read.f 200 s with
      | none => rw [hr2] at hb2; cases hb2
      | some r =>
        rw [hr2] at hb2
        have g2 := at_rounds (partitaref02_Read.mono _) hk hr2
        rw [g1] at g2
        obtain rfl := Option.some.inj g2
        revert hb2
        decide
  · rcases rRead_tells s hs k hk with ⟨x', a', o', g1, g2, g3⟩ | g1
    · exfalso
      obtain ⟨t, u1, _, _, u4⟩ := text_back g2
      rw [g3] at u1
      obtain rfl : s = t := by simp only [Option.some.injEq, Prod.mk.injEq] at u1; exact u1.1
      rw [h1] at u4
      simp at u4
    · exact g1

end Go.Proofs.YtnpinngdiipogaaDoor.Pure
