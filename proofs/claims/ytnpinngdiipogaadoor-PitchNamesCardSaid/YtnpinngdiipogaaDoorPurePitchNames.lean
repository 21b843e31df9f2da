/- Each number from 0 to 127 is that of one to three right pitches, and no greater one of any; no condition. -/
import Derived.Test.YtnpinngdiipogaaDoorM23
import Derived.Test.YtnpinngdiipogaaDoorPureBase
set_option linter.unusedVariables false
set_option linter.unusedSimpArgs false
namespace Go.Proofs.YtnpinngdiipogaaDoor.Pure
open Go.RowKit Go.Proofs.YtnpinngdiipogaaDoor.M Go.Proofs.YtnpinngdiipogaaDoorW.PrintWords Go.Proofs.YtnpinngdiipogaaDoorW.PrintLast
set_option maxRecDepth 100000

def hfN (s : Nat) : Nat := bif Nat.ble 3 s then 2 * s - 1 else 2 * s
/-- the place i of the walk over lines and alterations is a right pitch of the number n -/
def okB (n i : Nat) : Bool := Nat.ble n 127 && Nat.beq (12 * (i / 5 / 7) + hfN (i / 5 % 7) + i % 5) (n + 2)
def toS (i : Nat) : S23 := ⟨((i / 5 % 7 : Nat) : Int), ((i % 5 : Nat) : Int) - 2, ((i / 5 / 7 : Nat) : Int) - 1⟩
def lst (n : Nat) : Nat → List Nat
  | 0 => []
  | d + 1 => if okB n (384 - d) then (384 - d) :: lst n d else lst n d
theorem hfN_eq (s : Nat) (h : s < 7) : hf (s : Int) = (hfN s : Int) := by
  have : s = 0 ∨ s = 1 ∨ s = 2 ∨ s = 3 ∨ s = 4 ∨ s = 5 ∨ s = 6 := by omega
  rcases this with rfl | rfl | rfl | rfl | rfl | rfl | rfl <;> rfl
theorem okB_iff (n i : Nat) (hi : i < 385) : okB n i = true ↔ (R ((i / 5 % 7 : Nat) : Int) (((i % 5 : Nat) : Int) - 2) (((i / 5 / 7 : Nat) : Int) - 1) ∧ num ((i / 5 % 7 : Nat) : Int) (((i % 5 : Nat) : Int) - 2) (((i / 5 / 7 : Nat) : Int) - 1) = (n : Int)) := by
  have hh := hfN_eq (i / 5 % 7) (by omega)
  have hb := hf_le (s := ((i / 5 % 7 : Nat) : Int)) (by omega) (by omega)
  have e : num ((i / 5 % 7 : Nat) : Int) (((i % 5 : Nat) : Int) - 2) (((i / 5 / 7 : Nat) : Int) - 1) = 12 * ((i / 5 / 7 : Nat) : Int) + (hfN (i / 5 % 7) : Int) + ((i % 5 : Nat) : Int) - 2 := by
    unfold num; rw [hh]; omega
  unfold okB
  rw [Bool.and_eq_true, Nat.ble_eq, Nat.beq_eq]
  unfold R
  rw [e]
  constructor
  · rintro ⟨h1, h2⟩
    refine ⟨⟨by omega, by omega, by omega, by omega, by omega, by omega, by omega, by omega⟩, by omega⟩
  · rintro ⟨⟨_, _, _, _, _, _, h1, h2⟩, h3⟩
    exact ⟨by omega, by omega⟩
theorem nxt (n : Int) (i : Nat) (hi : i < 385) (acc : List S23) (K : Nat) (hK : 10 ≤ K) : ∃ K', K ≤ K' + 2 ∧ partitalaw02_PitchNames.l1 K true n acc (((i / 5 : Nat) : Int) - 7) (wrap64 (((i % 5 : Nat) : Int) - 2 + 1)) = if i < 384 then partitalaw02_PitchNames.l1 K' true n acc ((((i + 1) / 5 : Nat) : Int) - 7) ((((i + 1) % 5 : Nat) : Int) - 2) else partitalaw02_PitchNames.l2 K' true n acc 1 := by
  rw [wr (by omega) (by omega)]
  by_cases h4 : i % 5 = 4
  · obtain ⟨K, rfl⟩ : ∃ m, K = m + 2 := ⟨K - 2, by omega⟩
    refine ⟨K, by omega, ?_⟩
    rw [partitalaw02_PitchNames.l1, if_neg (by omega), partitalaw02_PitchNames.l0, wr (by omega) (by omega)]
    by_cases hl : i < 384
    · rw [if_pos (by omega), if_pos hl]
      congr 1 <;> omega
    · rw [if_neg (by omega), if_neg hl]
  · refine ⟨K, by omega, ?_⟩
    rw [if_pos (by omega)]
    congr 1 <;> omega
theorem l1_step (n : Nat) (hn : n < 140) (i : Nat) (acc : List S23) (K d : Nat) (hi : d + 1 + i = 385) (hK : 4 * d + 20 ≤ K) (ha : acc.length + d ≤ 1000)
    (next : ∀ (acc' : List S23) (K' : Nat), K ≤ K' + 4 → acc'.length ≤ acc.length + 1 → ∃ K'', 8 ≤ K'' ∧ (if i < 384 then partitalaw02_PitchNames.l1 K' true n acc' ((((i + 1) / 5 : Nat) : Int) - 7) ((((i + 1) % 5 : Nat) : Int) - 2) else partitalaw02_PitchNames.l2 K' true n acc' 1) = partitalaw02_PitchNames.l2 K'' true n (acc' ++ (lst n d).map toS) 1) :
    ∃ K', 8 ≤ K' ∧ partitalaw02_PitchNames.l1 K true n acc (((i / 5 : Nat) : Int) - 7) (((i % 5 : Nat) : Int) - 2) = partitalaw02_PitchNames.l2 K' true n (acc ++ (lst n (d + 1)).map toS) 1 := by
  obtain ⟨K, rfl⟩ : ∃ m, K = m + 2 := ⟨K - 2, by omega⟩
  have hlst : lst n (d + 1) = if okB n i then i :: lst n d else lst n d := by
    rw [lst, show 384 - d = i by omega]
  have hok := okB_iff n i (by omega)
  rw [partitalaw02_PitchNames.l1, if_pos (by omega)]
  rw [wr (x := ((i / 5 : Nat) : Int) - 7 + 7) (by omega) (by omega), tdiv_pos (by omega), tmod_pos (by omega)]
  have e1 : (((i / 5 : Nat) : Int) - 7 + 7) % 7 = ((i / 5 % 7 : Nat) : Int) := by omega
  have e2 : (((i / 5 : Nat) : Int) - 7 + 7) / 7 = ((i / 5 / 7 : Nat) : Int) := by omega
  rw [e1, e2, wr (x := ((i / 5 / 7 : Nat) : Int)) (by omega) (by omega), wr (x := ((i / 5 / 7 : Nat) : Int) - 1) (by omega) (by omega)]
  rw [Number_eq, Line_eq]
  simp only [Option.bind_some]
  by_cases h : R ((i / 5 % 7 : Nat) : Int) (((i % 5 : Nat) : Int) - 2) (((i / 5 / 7 : Nat) : Int) - 1)
  · rw [if_pos h, if_pos h]
    have e3 : (7 * (((i / 5 / 7 : Nat) : Int) - 1) + ((i / 5 % 7 : Nat) : Int) != ((i / 5 : Nat) : Int) - 7) = false := by
      rw [bne_eq_false_iff_eq]; omega
    simp only [if_true]
    rw [e3, partitalaw02_PitchNames.j2, if_neg (by decide), if_pos rfl]
    by_cases hnum : num ((i / 5 % 7 : Nat) : Int) (((i % 5 : Nat) : Int) - 2) (((i / 5 / 7 : Nat) : Int) - 1) = (n : Int)
    · rw [if_pos hnum, if_pos (by omega)]
      obtain ⟨K', h1, h2⟩ := nxt (n : Int) i (by omega) (acc ++ [toS i]) K (by omega)
      obtain ⟨K'', h3, h4⟩ := next (acc ++ [toS i]) K' (by omega) (by simp)
      refine ⟨K'', h3, ?_⟩
      rw [hlst, if_pos (hok.2 ⟨h, hnum⟩)]
      show partitalaw02_PitchNames.l1 K true n (acc ++ [toS i]) _ _ = _
      rw [h2, h4]
      simp
    · rw [if_neg hnum]
      obtain ⟨K', h1, h2⟩ := nxt (n : Int) i (by omega) acc K (by omega)
      obtain ⟨K'', h3, h4⟩ := next acc K' (by omega) (by omega)
      refine ⟨K'', h3, ?_⟩
      rw [hlst, if_neg (fun hc => hnum (hok.1 hc).2), h2, h4]
  · rw [if_neg h, if_neg h]
    simp only [if_true]
    rw [if_neg (by decide), partitalaw02_PitchNames.j2, if_neg (by decide), if_neg (by decide)]
    obtain ⟨K', h1, h2⟩ := nxt (n : Int) i (by omega) acc K (by omega)
    obtain ⟨K'', h3, h4⟩ := next acc K' (by omega) (by omega)
    refine ⟨K'', h3, ?_⟩
    rw [hlst, if_neg (fun hc => h (hok.1 hc).1), h2, h4]
theorem l1_run (n : Nat) (hn : n < 140) : ∀ (d i : Nat) (acc : List S23) (K : Nat), d + 1 + i = 385 → 4 * d + 20 ≤ K → acc.length + d ≤ 1000 → ∃ K', 8 ≤ K' ∧ partitalaw02_PitchNames.l1 K true n acc (((i / 5 : Nat) : Int) - 7) (((i % 5 : Nat) : Int) - 2) = partitalaw02_PitchNames.l2 K' true n (acc ++ (lst n (d + 1)).map toS) 1 := by
  intro d
  induction d with
  | zero =>
    intro i acc K hi hK ha
    obtain rfl : i = 384 := by omega
    exact l1_step n hn 384 acc K 0 rfl hK ha (fun acc' K' h1 h2 => ⟨K', by omega, by rw [if_neg (by decide)]; simp [lst]⟩)
  | succ d ih =>
    intro i acc K hi hK ha
    refine l1_step n hn i acc K (d + 1) (by omega) hK ha (fun acc' K' h1 h2 => ?_)
    rw [if_pos (by omega)]
    exact ih (i + 1) acc' K' (by omega) (by omega) (by omega)

theorem lst_ge (n : Nat) : ∀ d, d ≤ 385 → ∀ x ∈ lst n d, 385 - d ≤ x ∧ x < 385 ∧ okB n x = true := by
  intro d
  induction d with
  | zero => intro _ x hx; cases hx
  | succ d ih =>
    intro hd x hx
    rw [lst] at hx
    split at hx
    · rename_i hc
      rcases List.mem_cons.1 hx with rfl | hx
      · exact ⟨by omega, by omega, hc⟩
      · have := ih (by omega) x hx
        exact ⟨by omega, this.2⟩
    · have := ih (by omega) x hx
      exact ⟨by omega, this.2⟩
theorem lst_pw (n : Nat) : ∀ d, d ≤ 385 → (lst n d).Pairwise (fun a b => a < b) := by
  intro d
  induction d with
  | zero => intro _; exact List.Pairwise.nil
  | succ d ih =>
    intro hd
    rw [lst]
    split
    · refine List.Pairwise.cons (fun x hx => ?_) (ih (by omega))
      have := (lst_ge n d (by omega) x hx).1
      omega
    · exact ih (by omega)
theorem lst_count : ∀ n : Fin 128, 1 ≤ (lst n.val 385).length ∧ (lst n.val 385).length ≤ 3 := by decide +kernel
theorem lst_none (n : Nat) (h : 127 < n) : ∀ d, lst n d = [] := by
  intro d
  induction d with
  | zero => rfl
  | succ d ih =>
    rw [lst, if_neg, ih]
    unfold okB
    rw [Bool.and_eq_true, Nat.ble_eq]
    omega
theorem cmp_up {n a b : Nat} (ha : okB n a = true) (hb : okB n b = true) (h : a < b) (hb2 : b < 385) : cmpS (toS a).f0 (toS a).f1 (toS a).f2 (toS b).f0 (toS b).f1 (toS b).f2 = -1 := by
  obtain ⟨r1, n1⟩ := (okB_iff n a (by omega)).1 ha
  obtain ⟨r2, n2⟩ := (okB_iff n b (by omega)).1 hb
  have hne : a / 5 ≠ b / 5 := by
    intro e
    rw [e] at n1
    unfold num at n1 n2
    omega
  unfold cmpS toS
  dsimp only
  rw [if_pos ⟨r1, r2⟩, if_neg (by omega), if_neg (by omega), if_pos (by omega)]
theorem l2_run (n : Int) (xs : List S23) (hx : xs.length ≤ 100) (hc : ∀ j, 1 ≤ j → j < xs.length → cmpS (xs.getD (j - 1) z23).f0 (xs.getD (j - 1) z23).f1 (xs.getD (j - 1) z23).f2 (xs.getD j z23).f0 (xs.getD j z23).f1 (xs.getD j z23).f2 = -1) :
    ∀ (d j K : Nat), 1 ≤ j → xs.length ≤ d + j → d + 5 ≤ K → partitalaw02_PitchNames.l2 K true n xs (j : Int) = if n > 127 then some ((xs.length : Int) == 0) else if (xs.length : Int) ≥ 1 then some (decide ((xs.length : Int) ≤ 3)) else some false := by
  intro d
  induction d with
  | zero =>
    intro j K h1 h2 h3
    obtain ⟨K, rfl⟩ : ∃ m, K = m + 1 := ⟨K - 1, by omega⟩
    rw [partitalaw02_PitchNames.l2, if_neg (by omega)]
    simp only [if_true]
  | succ d ih =>
    intro j K h1 h2 h3
    obtain ⟨K, rfl⟩ : ∃ m, K = m + 1 := ⟨K - 1, by omega⟩
    rw [partitalaw02_PitchNames.l2]
    by_cases hj : (j : Int) < (xs.length : Int)
    · rw [if_pos hj, wr (x := (j : Int) - 1) (by omega) (by omega), if_pos (by omega), if_pos (by omega), if_pos (by omega)]
      obtain ⟨K4, rfl⟩ : ∃ m, K = m + 4 := ⟨K - 4, by omega⟩
      rw [Compare_eq]
      unfold rd_T23
      rw [show ((j : Int) - 1).toNat = j - 1 by omega, Int.toNat_natCast, hc j h1 (by omega)]
      rw [Option.bind_some, if_pos rfl, wr (x := (j : Int) + 1) (by omega) (by omega)]
      rw [show (j : Int) + 1 = ((j + 1 : Nat) : Int) by omega]
      exact ih (j + 1) (K4 + 4) (by omega) (by omega) (by omega)
    · rw [if_neg hj]
      simp only [if_true]

theorem PitchNames : partitalaw02_PitchNames.Pure := by
  intro a ha
  obtain ⟨k, e2, k0, k1⟩ := pick_eq (n := 140) ha (by omega) (by omega)
  obtain ⟨n, rfl⟩ := Int.eq_ofNat_of_zero_le k0
  have hn : n < 140 := by omega
  obtain ⟨K1, hK1, e3⟩ := l1_run n hn 384 0 [] 2000 rfl (by omega) (by simp)
  have hx : ((lst n 385).map toS).length ≤ 3 := by
    rw [List.length_map]
    by_cases h : n < 128
    · exact (lst_count ⟨n, h⟩).2
    · rw [lst_none n (by omega)]; decide
  have hc : ∀ j, 1 ≤ j → j < ((lst n 385).map toS).length → cmpS (((lst n 385).map toS).getD (j - 1) z23).f0 (((lst n 385).map toS).getD (j - 1) z23).f1 (((lst n 385).map toS).getD (j - 1) z23).f2 (((lst n 385).map toS).getD j z23).f0 (((lst n 385).map toS).getD j z23).f1 (((lst n 385).map toS).getD j z23).f2 = -1 := by
    intro j h1 h2
    rw [List.length_map] at h2
    have g1 : ((lst n 385).map toS).getD (j - 1) z23 = toS ((lst n 385)[j - 1]'(by omega)) := by simp [List.getD_eq_getElem?_getD, List.getElem?_eq_getElem (show j - 1 < (lst n 385).length by omega)]
    have g2 : ((lst n 385).map toS).getD j z23 = toS ((lst n 385)[j]'h2) := by simp [List.getD_eq_getElem?_getD, List.getElem?_eq_getElem h2]
    rw [g1, g2]
    have m1 := lst_ge n 385 (by omega) _ (List.getElem_mem (show j - 1 < (lst n 385).length by omega))
    have m2 := lst_ge n 385 (by omega) _ (List.getElem_mem h2)
    exact cmp_up m1.2.2 m2.2.2 (List.pairwise_iff_getElem.1 (lst_pw n 385 (by omega)) (j - 1) j (by omega) h2 (by omega)) m2.2.1
  have e4 := l2_run (n : Int) ((lst n 385).map toS) (by omega) hc 3 1 K1 (by omega) (by omega) (by omega)
  refine ⟨2001, ?_⟩
  unfold partitalaw02_PitchNames.f
  rw [at_rounds partitalaw02_awake.mono (show 1000 ≤ 2001 by decide) awake_ok, Option.bind_some, e2, Option.bind_some]
  rw [partitalaw02_PitchNames.l0, if_pos (by decide)]
  have e5 : partitalaw02_PitchNames.l1 2000 true (n : Int) [] (-7) (-2) = partitalaw02_PitchNames.l2 K1 true (n : Int) ([] ++ (lst n 385).map toS) 1 := by
    rw [show (-7 : Int) = ((0 / 5 : Nat) : Int) - 7 by decide, show (-2 : Int) = ((0 % 5 : Nat) : Int) - 2 by decide]
    exact e3
  rw [e5, List.nil_append]
  rw [show ((1 : Nat) : Int) = 1 from rfl] at e4
  rw [e4]
  by_cases h : n < 128
  · have hl := (lst_count ⟨n, h⟩).1
    simp only at hl
    rw [if_neg (by omega), if_pos (by rw [List.length_map]; omega), decide_eq_true (by omega)]
  · rw [if_pos (by omega), lst_none n (by omega)]
    rfl

end Go.Proofs.YtnpinngdiipogaaDoor.Pure
