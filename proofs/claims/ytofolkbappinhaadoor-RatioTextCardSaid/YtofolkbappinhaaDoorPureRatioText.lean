/- For any ratio, text and byte: what is shown is read back, and what is read is shown as it was; no condition. -/
import Derived.Test.YtofolkbappinhaaDoorM33
import Derived.Test.YtofolkbappinhaaDoorPureRead
set_option linter.unusedVariables false
set_option linter.unusedSimpArgs false
namespace Go.Proofs.YtofolkbappinhaaDoor.Pure
open Go.RowKit Go.Proofs.YtofolkbappinhaaDoor.M Go.Proofs.YtofolkbappinhaaDoorW.PrintWords Go.Proofs.YtofolkbappinhaaDoorW.PrintLast
set_option maxRecDepth 100000

theorem RatioText : partitalaw01_RatioText.Pure := by
  intro x y s b hx hy hs hb
  obtain ⟨p, q, e1, h⟩ := Ratio_eq (k := 1000) (by omega) (wf64 hx) (wf64 hy)
  obtain ⟨ip, iq⟩ := Rt_I64 h
  have hbb : 0 ≤ b ∧ b ≤ 255 := by
    have h : IntKind.u8.min ≤ b ∧ b ≤ IntKind.u8.max := by simpa [Lit.wf] using hb
    exact h
  refine ⟨1000, ?_⟩
  unfold partitalaw01_RatioText.f
  rw [examples_ok, Option.bind_some, if_pos rfl, e1, Option.bind_some]
  dsimp only
  rw [Text_eq (by omega) ip iq, if_pos h, Option.bind_some]
  dsimp only
  rw [Read_text (by omega) h, Option.bind_some]
  have hmn : 0 ≤ mn (s.size : Int) 30 ∧ mn (s.size : Int) 30 ≤ s.size ∧ mn (s.size : Int) 30 ≤ 30 := by unfold mn; split <;> omega
  rw [if_pos hmn.1, if_pos hmn.2.1]
  obtain ⟨few, hf⟩ : ∃ few, few = s.extract 0 (mn (s.size : Int) 30).toNat := ⟨_, rfl⟩
  have hfs : few.size ≤ 30 := by rw [hf, ByteArray.size_extract]; omega
  rw [← hf]
  have ht := text_small h
  have hone : (strOfNums [b]).size = 1 := rfl
  have hz : ratio_Read.f 1000 ((⟨#[48]⟩ : ByteArray) ++ textS p q) = some (0, 0, 12) := by
    rcases Read_tells (k := 1000) (by omega) ((⟨#[48]⟩ : ByteArray) ++ textS p q) (by rw [ByteArray.size_append]; have : (⟨#[48]⟩ : ByteArray).size = 1 := rfl; omega) with ⟨p', q', _, h', e'⟩ | ⟨e', _⟩
    · exact absurd (text_zero h h' e') id
    · exact e'
  obtain ⟨v1, v2, v3, hv, hvv⟩ : ∃ v1 v2 v3, ratio_Read.f 1000 (textS p q ++ strOfNums [b]) = some (v1, v2, v3) ∧ (v3 = 12 ∨ b ≥ 48 ∧ b ≤ 57 ∧ (!(v1 == p) || (!(v2 == q))) = true) := by
    rcases Read_tells (k := 1000) (by omega) (textS p q ++ strOfNums [b]) (by rw [ByteArray.size_append, hone]; omega) with ⟨p', q', e2, h', e'⟩ | ⟨e', _⟩
    · refine ⟨p', q', 0, e2, .inr ?_⟩
      obtain ⟨r, c, hl, hd⟩ := text_last (p := p') (q := q')
      have hl2 : (textS p' q').data.toList = (textS p q).data.toList ++ [UInt8.ofNat b.toNat] := by
        rw [e', ByteArray.data_append]
        simp [strOfNums]
      rw [hl] at hl2
      have hc : c = UInt8.ofNat b.toNat := by
        have := List.append_inj_right' hl2 rfl
        simpa using this
      have hcn : c.toNat = b.toNat := by rw [hc, UInt8.toNat_ofNat']; omega
      refine ⟨by omega, by omega, ?_⟩
      rw [Bool.or_eq_true]
      by_cases hpp : p' = p
      · right
        rw [Bool.not_eq_true', beq_eq_false_iff_ne]
        intro hqq
        subst hpp hqq
        have := congrArg ByteArray.size e'
        rw [ByteArray.size_append, hone] at this
        omega
      · left
        rw [Bool.not_eq_true', beq_eq_false_iff_ne]
        exact hpp
    · exact ⟨0, 0, 12, e', .inl rfl⟩
  have hj0 : ∀ z1 z2 z3 u1 u2, ((z3 = 0 ∧ Rt z1 z2 ∧ u1 = few ∧ u2 = 0) ∨ (z3 = 12 ∧ z1 = 0 ∧ z2 = 0)) → partitalaw01_RatioText.j0 1000 b true few z3 u1 u2 v3 false p q z1 z2 v1 v2 = some true := by
    intro z1 z2 z3 u1 u2 hcase
    rw [show (1000 : Nat) = 999 + 1 from rfl, partitalaw01_RatioText.j0, if_neg (by decide)]
    have tail : (if v3 = 12 then some true else (if b ≥ 48 then (if b ≤ 57 then (some (!(v1 == p) || (!(v2 == q)))) else (some false)) else (some false))) = some true := by
      rcases hvv with hv | ⟨h1, h2, h3⟩
      · rw [if_pos hv]
      · by_cases hv : v3 = 12
        · rw [if_pos hv]
        · rw [if_neg hv, if_pos h1, if_pos h2, h3]
    rcases hcase with ⟨rfl, hr, rfl, rfl⟩ | ⟨rfl, rfl, rfl⟩
    · obtain ⟨i1, i2⟩ := Rt_I64 hr
      rw [if_pos rfl, if_pos rfl, if_pos rfl, right_eq (by omega) i1 i2, decide_eq_true hr, Option.bind_some, if_pos rfl, if_pos rfl]
      exact tail
    · rw [if_neg (by decide), if_pos rfl, if_neg (by decide), if_pos rfl]
      exact tail
  have mainz : ∀ z1 z2 z3, ratio_Read.f 1000 few = some (z1, z2, z3) → I64 z1 → I64 z2 → ((z3 = 0 ∧ Rt z1 z2 ∧ textS z1 z2 = few) ∨ (z3 = 12 ∧ z1 = 0 ∧ z2 = 0)) → ((ratio_Text.f 1000 z1 z2).bind fun bt601 => (if 1 + (textS p q).size ≤ 9223372036854775807 then ((ratio_Read.f 1000 ((⟨#[48]⟩ : ByteArray) ++ textS p q)).bind fun bt603 => ((some (([b] : List Int) : List Int)).bind fun y607 => (if (textS p q).size + (strOfNums y607).size ≤ 9223372036854775807 then ((ratio_Read.f 1000 (textS p q ++ (strOfNums y607))).bind fun bt610 => (if (0 : Int) = 0 then (if (0 : Int) = 0 then (if (!(p == p) || (!(q == q))) = true then (partitalaw01_RatioText.j0 1000 b true few z3 bt601.1 bt601.2 bt610.2.2 true p q z1 z2 bt610.1 bt610.2.1) else (partitalaw01_RatioText.j0 1000 b true few z3 bt601.1 bt601.2 bt610.2.2 (bt603.2.2 != 12) p q z1 z2 bt610.1 bt610.2.1)) else (partitalaw01_RatioText.j0 1000 b true few z3 bt601.1 bt601.2 bt610.2.2 true p q z1 z2 bt610.1 bt610.2.1)) else (partitalaw01_RatioText.j0 1000 b true few z3 bt601.1 bt601.2 bt610.2.2 true p q z1 z2 bt610.1 bt610.2.1))) else (none)))) else (none))) = some true := by
    intro z1 z2 z3 _ i1 i2 hcase
    rw [Text_eq (by omega) i1 i2, Option.bind_some, if_pos (by omega), hz, Option.bind_some, Option.bind_some, if_pos (by rw [hone]; omega), hv, Option.bind_some, if_pos rfl, if_pos rfl, if_neg (by simp)]
    dsimp only
    refine hj0 z1 z2 z3 _ _ ?_
    rcases hcase with ⟨h1, h2, h3⟩ | h1
    · rw [if_pos h2]
      exact .inl ⟨h1, h2, h3, rfl⟩
    · exact .inr h1
  rcases Read_tells (k := 1000) (by omega) few (by omega) with ⟨z1, z2, f1, f2, f3⟩ | ⟨f1, _⟩
  · obtain ⟨i1, i2⟩ := Rt_I64 f2
    have := mainz z1 z2 0 f1 i1 i2 (.inl ⟨rfl, f2, f3⟩)
    rw [f1, Option.bind_some]
    exact this
  · have := mainz 0 0 12 f1 ⟨by decide, by decide⟩ ⟨by decide, by decide⟩ (.inr ⟨rfl, rfl, rfl⟩)
    rw [f1, Option.bind_some]
    exact this

end Go.Proofs.YtofolkbappinhaaDoor.Pure
