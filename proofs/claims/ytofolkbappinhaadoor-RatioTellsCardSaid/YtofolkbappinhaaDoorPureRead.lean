/- What ratio.Read tells: the right ratio whose text it is, or none. -/
import Derived.Test.YtofolkbappinhaaDoorPureText
import Derived.Test.YtofolkbappinhaaDoorPureDigits
import Derived.Test.YtofolkbappinhaaDoorGRead
import Derived.Lib.ItoaLen
set_option linter.unusedVariables false
set_option linter.unusedSimpArgs false
namespace Go.Proofs.YtofolkbappinhaaDoor.Pure
open Go.RowKit Go.Proofs.YtofolkbappinhaaDoor.M Go.Proofs.YtofolkbappinhaaDoorW.PrintWords Go.Proofs.YtofolkbappinhaaDoorW.PrintLast
set_option maxRecDepth 100000

theorem text_list (p q : Int) : (textS p q).data.toList = Lib.itoa p ++ (if q = 1 then [] else 47 :: Lib.itoa q) := by
  unfold textS
  split
  · rw [List.append_nil]
  · rw [ByteArray.data_append, ByteArray.data_append]
    simp
theorem same_data {a b : ByteArray} (h : a.data.toList = b.data.toList) : a = b := by
  obtain ⟨⟨x⟩⟩ := a
  obtain ⟨⟨y⟩⟩ := b
  obtain rfl : x = y := h
  rfl
theorem size_list (s : ByteArray) : s.size = s.data.toList.length := Array.length_toList.symm
theorem text_small {p q : Int} (h : Rt p q) : 1 ≤ (textS p q).size ∧ (textS p q).size ≤ 50 := by
  obtain ⟨ip, iq⟩ := Rt_I64 h
  rw [size_list, text_list, List.length_append]
  have l1 := Lib.itoa_length_le p ip.1 ip.2
  have l2 := Lib.itoa_length_le q iq.1 iq.2
  have l3 := (itoa_len p).1
  split
  · rw [List.length_nil]; omega
  · rw [List.length_cons]; omega
theorem readNum_itoa {n : Int} (h : n.natAbs ≤ 1000000000) : readNum (Lib.itoa n) = (n, true) := by
  unfold readNum
  rw [atoi_itoa (by omega) (by omega)]
theorem read_back {p q : Int} (h : Rt p q) : readTwo (textS p q) = (p, q, true) := by
  obtain ⟨h1, h2, h3, _⟩ := h
  unfold readTwo readCut
  rw [text_list]
  by_cases e : q = 1
  · rw [if_pos e, List.append_nil, cut_no (itoa_no p)]
    dsimp only
    rw [if_neg (fun hh => by cases hh.1), readNum_itoa h2, e]
  · rw [if_neg e, cut_yes (itoa_no p)]
    dsimp only
    rw [readNum_itoa h2, readNum_itoa (show q.natAbs ≤ 1000000000 by omega), if_pos ⟨rfl, rfl⟩]
theorem atoi_I64 {l : List UInt8} {v : Int} (h : Lib.atoiAll l = .ok v) : I64 v := by
  cases l with
  | nil => cases h
  | cons c r =>
    unfold Lib.atoiAll at h
    simp only at h
    cases hp : Lib.parseMag (if c.toNat = 43 ∨ c.toNat = 45 then r else c :: r)
    rotate_left
    · rw [hp] at h; cases h
    · rw [hp] at h; cases h
    · rename_i u
      rw [hp] at h
      simp only at h
      by_cases h1 : ¬ c.toNat = 45 ∧ 9223372036854775808 ≤ u
      · rw [if_pos h1] at h; cases h
      · rw [if_neg h1] at h
        by_cases h2 : c.toNat = 45 ∧ 9223372036854775808 < u
        · rw [if_pos h2] at h; cases h
        · rw [if_neg h2] at h
          have hv := Lib.NumEnd.ok.inj h
          subst hv
          by_cases hn : c.toNat = 45
          · rw [if_pos hn]
            have : ¬ 9223372036854775808 < u := fun h => h2 ⟨hn, h⟩
            exact ⟨by omega, by omega⟩
          · rw [if_neg hn]
            have : ¬ 9223372036854775808 ≤ u := fun h => h1 ⟨hn, h⟩
            exact ⟨by omega, by omega⟩
theorem readNum_I64 (l : List UInt8) : I64 (readNum l).1 := by
  unfold readNum
  split
  · rename_i v hc
    exact atoi_I64 hc
  · unfold Lib.atoiSat
    dsimp only
    split <;> exact ⟨by decide, by decide⟩
  · exact ⟨by decide, by decide⟩
theorem readTwo_I64 (s : ByteArray) : I64 (readTwo s).1 ∧ I64 (readTwo s).2.1 := by
  unfold readTwo
  split
  · exact ⟨readNum_I64 _, readNum_I64 _⟩
  · exact ⟨readNum_I64 _, show I64 1 from ⟨by decide, by decide⟩⟩
theorem Read_text {k : Nat} (hk : 150 ≤ k) {p q : Int} (h : Rt p q) : ratio_Read.f k (textS p q) = some (p, q, 0) := by
  obtain ⟨ip, iq⟩ := Rt_I64 h
  have hs := (text_small h).2
  unfold ratio_Read.f
  rw [if_pos (by omega), read_back h, Text_eq hk ip iq, if_pos h, Option.bind_some, if_pos ⟨rfl, rfl, rfl⟩]
theorem Read_tells {k : Nat} (hk : 150 ≤ k) (s : ByteArray) (hs : s.size ≤ 1000000000) : (∃ p q, ratio_Read.f k s = some (p, q, 0) ∧ Rt p q ∧ textS p q = s) ∨ (ratio_Read.f k s = some (0, 0, 12) ∧ ∀ p q, Rt p q → textS p q ≠ s) := by
  by_cases hex : ∃ p q, Rt p q ∧ textS p q = s
  · obtain ⟨p, q, h, rfl⟩ := hex
    exact .inl ⟨p, q, Read_text hk h, h, rfl⟩
  · refine .inr ⟨?_, fun p q h e => hex ⟨p, q, h, e⟩⟩
    obtain ⟨i1, i2⟩ := readTwo_I64 s
    unfold ratio_Read.f
    rw [if_pos hs, Text_eq hk i1 i2, Option.bind_some, if_neg]
    rintro ⟨_, h2, h3⟩
    by_cases hr : Rt (readTwo s).1 (readTwo s).2.1
    · rw [if_pos hr] at h3
      exact hex ⟨_, _, hr, h3⟩
    · rw [if_neg hr] at h2
      exact absurd h2 (by decide)
theorem text_inj {p q p' q' : Int} (h : Rt p q) (h' : Rt p' q') (e : textS p q = textS p' q') : p = p' ∧ q = q' := by
  have h1 := read_back h
  rw [e, read_back h'] at h1
  simp only [Prod.mk.injEq] at h1
  exact ⟨h1.1.symm, h1.2.1.symm⟩
theorem text_zero {p q p' q' : Int} (h : Rt p q) (h' : Rt p' q') (e : textS p' q' = (⟨#[48]⟩ : ByteArray) ++ textS p q) : False := by
  have el : (textS p' q').data.toList = 48 :: (textS p q).data.toList := by rw [e, ByteArray.data_append]; simp
  rw [text_list, text_list] at el
  obtain ⟨c, r, hc, hz⟩ := itoa_cons p'
  rw [hc, List.cons_append] at el
  injection el with e1 e2
  have hp := hz (by rw [e1]; decide)
  subst hp
  have hq : q' = 1 := by
    have h1 := h'.1
    have h4 := h'.2.2.2
    rw [Int.natAbs_zero, Nat.gcd_zero_left] at h4
    omega
  rw [if_pos hq, List.append_nil] at e2
  have h0 : Lib.itoa 0 = [48] := by decide +kernel
  rw [h0] at hc
  injection hc with _ hr
  rw [← hr] at e2
  obtain ⟨c', r', hc', _⟩ := itoa_cons p
  rw [hc'] at e2
  simp at e2
theorem text_last {p q : Int} : ∃ r c, (textS p q).data.toList = r ++ [c] ∧ 48 ≤ c.toNat ∧ c.toNat ≤ 57 := by
  rw [text_list]
  split
  · rw [List.append_nil]; exact itoa_last p
  · obtain ⟨r, c, e, h⟩ := itoa_last q
    exact ⟨Lib.itoa p ++ 47 :: r, c, by rw [e]; simp, h⟩
end Go.Proofs.YtofolkbappinhaaDoor.Pure
