/- What the reference reads of a text: the right ratio whose text it is, or none. -/
import Derived.Test.YtofolkbappinhaaDoorPureRef
set_option linter.unusedVariables false
set_option linter.unusedSimpArgs false
namespace Go.Proofs.YtofolkbappinhaaDoor.Pure
open Go.RowKit Go.Proofs.YtofolkbappinhaaDoor.M Go.Proofs.YtofolkbappinhaaDoorW.PrintWords Go.Proofs.YtofolkbappinhaaDoorW.PrintLast Go.Lib
set_option maxRecDepth 100000

theorem slash_at (s : ByteArray) (hs : s.size ≤ 50) : ∀ (d i k : Nat), i + d = s.size → d + 401 ≤ k → (∀ c ∈ s.data.toList.take i, c ≠ 47) →
    ∃ k' at_, 400 ≤ k' ∧ at_ ≤ s.size ∧ partitaref01_Read.l0 k s (i : Int) 0 1 = partitaref01_Read.j1 k' s (at_ : Int) 0 1 ∧ (∀ c ∈ s.data.toList.take at_, c ≠ 47) ∧ (∀ h : at_ < s.data.toList.length, s.data.toList[at_] = 47) := by
  intro d
  induction d with
  | zero =>
    intro i k hi hk hn
    obtain ⟨k, rfl⟩ : ∃ m, k = m + 1 := ⟨k - 1, by omega⟩
    refine ⟨k, i, by omega, by omega, ?_, hn, fun h => by rw [← size_list] at h; omega⟩
    rw [partitaref01_Read.l0, if_neg (by omega)]
  | succ d ih =>
    intro i k hi hk hn
    obtain ⟨k, rfl⟩ : ∃ m, k = m + 1 := ⟨k - 1, by omega⟩
    have hlt : i < s.size := by omega
    have hll : i < s.data.toList.length := by rw [← size_list]; exact hlt
    have eb : bt s (i : Int) = ((s.data.toList[i]).toNat : Int) := by rw [bt_nat s i hlt]; rfl
    rw [partitaref01_Read.l0, if_pos (by omega), if_pos (by omega), eb]
    by_cases hc : ((s.data.toList[i]).toNat : Int) = 47
    · rw [if_pos hc]
      refine ⟨k, i, by omega, by omega, rfl, hn, fun h => ?_⟩
      exact UInt8.toNat_inj.1 (by show (s.data.toList[i]).toNat = 47; omega)
    · rw [if_neg hc, wr (x := (i : Int) + 1) (by omega) (by omega), show (i : Int) + 1 = ((i + 1 : Nat) : Int) by omega]
      refine ih (i + 1) k (by omega) (by omega) (fun c hm => ?_)
      rw [List.take_succ_eq_append_getElem hll, List.mem_append, List.mem_singleton] at hm
      rcases hm with hm | rfl
      · exact hn c hm
      · intro e; rw [e] at hc; exact hc rfl
theorem rRead_tells (s : ByteArray) (hs : s.size ≤ 50) : (∃ p q, partitaref01_Read.f 1000 s = some (p, q, 0) ∧ Rt p q ∧ textS p q = s) ∨ (partitaref01_Read.f 1000 s = some (0, 0, 12) ∧ ∀ p q, Rt p q → textS p q ≠ s) := by
  have hL := size_list s
  obtain ⟨k, at_, hk, hat, he, hn, hs47⟩ := slash_at s hs s.size 0 1000 (by omega) (by omega) (by simp)
  have hf : partitaref01_Read.f 1000 s = partitaref01_Read.j1 k s (at_ : Int) 0 1 := he
  rw [hf]
  obtain ⟨k, rfl⟩ : ∃ m, k = m + 1 := ⟨k - 1, by omega⟩
  have hd1 : (s.extract 0 ((at_ : Int)).toNat).data.toList = s.data.toList.take at_ := by rw [extract_data, Int.toNat_natCast]; simp
  have close : ∀ (n d : Int) (b : Bool), I64 n → I64 d → (b = true → (∃ p q, Rt p q ∧ textS p q = s) → Rt n d ∧ textS n d = s) → ((∃ p q, Rt p q ∧ textS p q = s) → b = true) →
      (∃ p q, (if b = true then (if (if Rt n d then (textS n d, (0 : Int)) else (⟨#[]⟩, 10)).2 = 0 then (if (if Rt n d then (textS n d, (0 : Int)) else (⟨#[]⟩, 10)).1.toList = s.toList then (some (n, d, (0 : Int))) else (some (0, 0, 12))) else (some (0, 0, 12))) else (some (0, 0, 12))) = some (p, q, 0) ∧ Rt p q ∧ textS p q = s) ∨ ((if b = true then (if (if Rt n d then (textS n d, (0 : Int)) else (⟨#[]⟩, 10)).2 = 0 then (if (if Rt n d then (textS n d, (0 : Int)) else (⟨#[]⟩, 10)).1.toList = s.toList then (some (n, d, (0 : Int))) else (some (0, 0, 12))) else (some (0, 0, 12))) else (some (0, 0, 12))) = some (0, 0, 12) ∧ ∀ p q, Rt p q → textS p q ≠ s) := by
    intro n d b hn hd hb1 hb2
    by_cases hex : ∃ p q, Rt p q ∧ textS p q = s
    · have hb := hb2 hex
      obtain ⟨h1, h2⟩ := hb1 hb hex
      refine .inl ⟨n, d, ?_, h1, h2⟩
      rw [if_pos hb, if_pos h1, if_pos rfl, if_pos (by rw [h2])]
    · refine .inr ⟨?_, fun p q h e => hex ⟨p, q, h, e⟩⟩
      by_cases hb : b = true
      · rw [if_pos hb]
        by_cases hr : Rt n d
        · rw [if_pos hr, if_pos rfl, if_neg (fun h => hex ⟨n, d, hr, by
            rw [ByteArray.toList_eq, ByteArray.toList_eq] at h
            exact same_data h⟩)]
        · rw [if_neg hr, if_neg (by decide)]
      · rw [if_neg hb]
  obtain ⟨n, ok, e1, in_⟩ := ReadNumber_tot (k := k) (by omega) (s.extract 0 ((at_ : Int)).toNat) (by rw [ByteArray.size_extract]; omega)
  rw [partitaref01_Read.j1, if_pos (by omega), if_pos (by omega), e1, Option.bind_some]
  by_cases hlt : at_ < s.size
  · have hll : at_ < s.data.toList.length := by omega
    have hsplit : s.data.toList = s.data.toList.take at_ ++ 47 :: s.data.toList.drop (at_ + 1) := by
      have h1 := List.take_append_drop at_ s.data.toList
      rw [List.drop_eq_getElem_cons hll, hs47 hll] at h1
      exact h1.symm
    have hcut : readCut s = (s.data.toList.take at_, s.data.toList.drop (at_ + 1), true) := by
      unfold readCut
      have := cut_yes (r := s.data.toList.drop (at_ + 1)) hn
      rw [← hsplit] at this
      exact this
    have hd2 : (s.extract ((((at_ : Int) + 1)).toNat) s.size).data.toList = s.data.toList.drop (at_ + 1) := by
      rw [extract_data, show (((at_ : Int) + 1)).toNat = at_ + 1 by omega, hL, List.take_of_length_le (by simp)]
    rw [wr (x := (at_ : Int) + 1) (by omega) (by omega), if_pos (by omega), if_pos (by omega), if_pos (by omega)]
    obtain ⟨d, is, e2, id_⟩ := ReadNumber_tot (k := k) (by omega) (s.extract ((((at_ : Int) + 1)).toNat) s.size) (by rw [ByteArray.size_extract]; omega)
    rw [e2, Option.bind_some]
    dsimp only
    have hback : (∃ p q, Rt p q ∧ textS p q = s) → ok = true ∧ is = true ∧ Rt n d ∧ textS n d = s := by
      rintro ⟨p, q, hr, rfl⟩
      have hq1 : q ≠ 1 := by
        intro hq
        have := hcut
        unfold readCut at this
        rw [text_list, if_pos hq, List.append_nil, cut_no (itoa_no p)] at this
        simp at this
      have hcut2 : readCut (textS p q) = (itoa p, itoa q, true) := by
        unfold readCut
        rw [text_list, if_neg hq1, cut_yes (itoa_no p)]
      rw [hcut2] at hcut
      simp only [Prod.mk.injEq, and_true] at hcut
      have x1 : (textS p q).extract 0 ((at_ : Int)).toNat = ⟨(itoa p).toArray⟩ := same_data (by rw [hd1, ← hcut.1])
      have x2 : (textS p q).extract ((((at_ : Int) + 1)).toNat) (textS p q).size = ⟨(itoa q).toArray⟩ := same_data (by rw [hd2, ← hcut.2])
      obtain ⟨h1, h2, h3, _⟩ := hr
      rw [x1, ReadNumber_itoa (by omega) h2] at e1
      rw [x2, ReadNumber_itoa (by omega) (show q.natAbs ≤ 1000000000 by omega)] at e2
      simp only [Option.some.injEq, Prod.mk.injEq] at e1 e2
      obtain ⟨rfl, rfl⟩ := e1
      obtain ⟨rfl, rfl⟩ := e2
      exact ⟨rfl, rfl, ⟨h1, h2, h3, by assumption⟩, rfl⟩
    have main := close n d (ok && is) in_ id_ (fun _ hex => ⟨(hback hex).2.2.1, (hback hex).2.2.2⟩) (fun hex => by rw [(hback hex).1, (hback hex).2.1]; rfl)
    rw [rText_eq (by omega) in_ id_, Option.bind_some]
    cases ok with
    | true =>
      rw [if_pos rfl]
      rw [Bool.true_and] at main
      exact main
    | false =>
      rw [if_neg (by decide)]
      exact main
  · have hcut : readCut s = (s.data.toList, [], false) := by
      unfold readCut
      refine cut_no (fun c hc => hn c ?_)
      rw [List.take_of_length_le (by omega)]
      exact hc
    have hx : s.extract 0 ((at_ : Int)).toNat = s := same_data (by rw [hd1, List.take_of_length_le (by omega)])
    rw [if_neg (by omega), rText_eq (by omega) in_ ⟨by decide, by decide⟩, Option.bind_some]
    dsimp only
    have hback : (∃ p q, Rt p q ∧ textS p q = s) → ok = true ∧ Rt n 1 ∧ textS n 1 = s := by
      rintro ⟨p, q, hr, rfl⟩
      have hq1 : q = 1 := by
        rcases Decidable.em (q = 1) with h | h
        · exact h
        · exfalso
          have := hcut
          unfold readCut at this
          rw [text_list, if_neg h, cut_yes (itoa_no p)] at this
          simp at this
      subst hq1
      have x1 : textS p 1 = ⟨(itoa p).toArray⟩ := same_data (by rw [text_list, if_pos rfl, List.append_nil])
      rw [hx, x1, ReadNumber_itoa (by omega) hr.2.1] at e1
      simp only [Option.some.injEq, Prod.mk.injEq] at e1
      obtain ⟨rfl, rfl⟩ := e1
      exact ⟨rfl, hr, rfl⟩
    exact close n 1 ok in_ ⟨by decide, by decide⟩ (fun _ hex => (hback hex).2) (fun hex => (hback hex).1)
end Go.Proofs.YtofolkbappinhaaDoor.Pure
