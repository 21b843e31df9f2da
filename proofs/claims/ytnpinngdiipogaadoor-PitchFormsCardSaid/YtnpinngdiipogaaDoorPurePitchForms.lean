/- For any text, raw pitch, place and byte: what can be read is the Text of a right pitch; no condition. -/
import Derived.Test.YtnpinngdiipogaaDoorM20
import Derived.Test.YtnpinngdiipogaaDoorPurePitchBack
set_option linter.unusedVariables false
set_option linter.unusedSimpArgs false
namespace Go.Proofs.YtnpinngdiipogaaDoor.Pure
open Go.RowKit Go.Proofs.YtnpinngdiipogaaDoor.M Go.Proofs.YtnpinngdiipogaaDoorW.PrintWords Go.Proofs.YtnpinngdiipogaaDoorW.PrintLast
set_option maxRecDepth 100000

theorem read_tells (x : ByteArray) (hx : x.size ≤ 9223372036854775807) : ∃ s a o e, pitch_Read.f x = some (s, a, o, e) ∧ ((e = 0 ∧ R s a o ∧ pitch_Text.f s a o = some (x, 0)) ∨ (e = 21 ∧ s = 0 ∧ a = 0 ∧ o = 0)) := by
  unfold pitch_Read.f
  by_cases h0 : x.size = 0
  · rw [if_pos h0]
    exact ⟨_, _, _, _, rfl, .inr ⟨rfl, rfl, rfl, rfl⟩⟩
  · rw [if_neg h0, if_pos hx]
    by_cases hr : R (stepUpto (x.get! 0).toNat 7) (readAlt x) (readOct x)
    · obtain ⟨t, h1, h2, h3, h4⟩ := text_back hr
      rw [h1]
      simp only [Option.bind_some]
      by_cases he : t = x
      · subst he
        rw [if_pos ⟨trivial, rfl⟩]
        exact ⟨_, _, _, _, rfl, .inl ⟨rfl, hr, h1⟩⟩
      · rw [if_neg (fun h => he h.2)]
        exact ⟨_, _, _, _, rfl, .inr ⟨rfl, rfl, rfl, rfl⟩⟩
    · have ht : pitch_Text.f (stepUpto (x.get! 0).toNat 7) (readAlt x) (readOct x) = some (⟨#[]⟩, 20) := by
        unfold pitch_Text.f
        rw [right_eq, decide_eq_false hr]
        rfl
      rw [ht]
      simp only [Option.bind_some]
      rw [if_neg (fun h => absurd h.1 (by decide))]
      exact ⟨_, _, _, _, rfl, .inr ⟨rfl, rfl, rfl, rfl⟩⟩
theorem forms_run (t : ByteArray) (xs : List ByteArray) (hl : xs.length ≤ 100) (hs : ∀ x ∈ xs, x.size ≤ 9223372036854775807) : ∀ (d i K : Nat), xs.length ≤ d + i → d + 1 ≤ K → partitalaw02_PitchForms.l0 K true t xs (xs.length : Int) (i : Int) = some true := by
  intro d
  induction d with
  | zero =>
    intro i K h1 h2
    obtain ⟨K, rfl⟩ : ∃ m, K = m + 1 := ⟨K - 1, by omega⟩
    rw [partitalaw02_PitchForms.l0, if_neg (by omega)]
  | succ d ih =>
    intro i K h1 h2
    obtain ⟨K, rfl⟩ : ∃ m, K = m + 1 := ⟨K - 1, by omega⟩
    rw [partitalaw02_PitchForms.l0]
    by_cases hi : (i : Int) < (xs.length : Int)
    · rw [if_pos hi, if_pos (by omega), if_pos hi]
      have hmem : rdOf ByteArray.empty xs (i : Int) ∈ xs := by
        unfold rdOf
        rw [Int.toNat_natCast, List.getD_eq_getElem?_getD, List.getElem?_eq_getElem (by omega)]
        exact List.getElem_mem _
      obtain ⟨s, a, o, e, h3, h4⟩ := read_tells _ (hs _ hmem)
      have hnext : partitalaw02_PitchForms.l0 K true t xs (xs.length : Int) (wrap64 ((i : Int) + 1)) = some true := by
        rw [wr (by omega) (by omega)]
        exact ih (i + 1) K (by omega) (by omega)
      rw [h3]
      simp only [Option.bind_some]
      rcases h4 with ⟨rfl, hr, h5⟩ | ⟨rfl, rfl, rfl, rfl⟩
      · rw [if_pos rfl, h5]
        simp only [Option.bind_some, if_true, right_eq, decide_eq_true hr]
        by_cases hq : (rdOf ByteArray.empty xs (i : Int)).toList = t.toList
        · rw [if_pos hq, beq_self_eq_true]
        · rw [if_neg hq]
          exact hnext
      · rw [if_neg (by decide), if_pos rfl, if_neg (by decide)]
        exact hnext
    · rw [if_neg hi]

theorem PitchForms : partitalaw02_PitchForms.Pure := by
  intro x a b c m y hx ha hb hc hm hy
  obtain ⟨s, al, o, e1, r1⟩ := Pitch_eq ha hb hc
  obtain ⟨t, t1, t2, t3, t4⟩ := text_back r1
  obtain ⟨p, e2, p0, p1⟩ := pick_eq (n := (t.size : Int) + 1) hm (by omega) (by omega)
  refine ⟨1000, ?_⟩
  unfold partitalaw02_PitchForms.f
  rw [awake_ok, e1]
  simp only [Option.bind_some]
  rw [t1]
  simp only [Option.bind_some, if_true]
  have hne : (t.toList == ([] : List UInt8)) = false := by
    rw [beq_eq_false_iff_ne]
    intro h
    have : t.size = 0 := by
      rw [ByteArray.toList_eq] at h
      obtain ⟨⟨l⟩⟩ := t
      obtain rfl : l = [] := h
      rfl
    omega
  rw [hne, partitalaw02_PitchForms.j0, if_neg (by decide), wr (x := (t.size : Int) + 1) (by omega) (by omega), e2]
  simp only [Option.bind_some]
  have hmn : 0 ≤ mn (x.size : Int) 20 ∧ mn (x.size : Int) 20 ≤ x.size := by unfold mn; split <;> omega
  have hone : (strOfNums [y]).size = 1 := rfl
  have hk : Int.tdiv p 2 = p / 2 := tdiv_pos p0
  rw [hk, wr (x := p / 2) (by omega) (by omega), wr (x := p / 2 + 1) (by omega) (by omega)]
  have hsz : (t.extract 0 p.toNat).size + (strOfNums [y]).size ≤ 9223372036854775807 := by
    rw [ByteArray.size_extract, hone]; omega
  have hsz2 : (t.extract 0 p.toNat ++ strOfNums [y]).size + (t.extract p.toNat t.size).size ≤ 9223372036854775807 := by
    rw [ByteArray.size_append, ByteArray.size_extract, ByteArray.size_extract, hone]; omega
  have hsz3 : (t.extract 0 (p / 2).toNat).size + (t.extract (p / 2 + 1).toNat t.size).size ≤ 9223372036854775807 := by
    rw [ByteArray.size_extract, ByteArray.size_extract]; omega
  rw [if_pos hmn.1, if_pos hmn.2, if_pos p0, if_pos (by omega), if_pos hsz, if_pos hsz2, if_pos (by omega), if_pos (by omega), if_pos (by omega), if_pos (by omega), if_pos hsz3]
  refine forms_run t _ (by simp) ?_ 5 0 999 (by simp) (by omega)
  intro z hz
  simp only [List.mem_cons, List.not_mem_nil, or_false] at hz
  rcases hz with rfl | rfl | rfl
  · rw [ByteArray.size_extract]; omega
  · rw [ByteArray.size_append, ByteArray.size_append, ByteArray.size_extract, ByteArray.size_extract, hone]; omega
  · rw [ByteArray.size_append, ByteArray.size_extract, ByteArray.size_extract]; omega

end Go.Proofs.YtnpinngdiipogaaDoor.Pure
