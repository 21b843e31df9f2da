/- What the reference tells of numbers' and ratios' texts. -/
import Derived.Test.YtofolkbappinhaaDoorPureRead
import Derived.Test.YtofolkbappinhaaDoorM15
import Derived.Test.YtofolkbappinhaaDoorM16
import Derived.Test.YtofolkbappinhaaDoorM18
import Derived.Test.YtofolkbappinhaaDoorM19
set_option linter.unusedVariables false
set_option linter.unusedSimpArgs false
namespace Go.Proofs.YtofolkbappinhaaDoor.Pure
open Go.RowKit Go.Proofs.YtofolkbappinhaaDoor.M Go.Proofs.YtofolkbappinhaaDoorW.PrintWords Go.Proofs.YtofolkbappinhaaDoorW.PrintLast Go.Lib
set_option maxRecDepth 100000

theorem one_digit {d : Int} (h0 : 0 ≤ d) (h1 : d ≤ 9) : strOfNums [IntKind.u64.wrap (48 + d) % 256] = ⟨#[UInt8.ofNat (48 + d.toNat)]⟩ := by
  have e : (IntKind.u64.wrap (48 + d) % 256).toNat = 48 + d.toNat := by rw [uw]; omega
  unfold strOfNums
  rw [List.map_cons, List.map_nil, e]
theorem digits_run : ∀ (n x k : Nat) (s : ByteArray), x < 10 ^ (n + 1) → n + 1 ≤ k → n ≤ 20 → s.size + n ≤ 1000 → x < 18446744073709551616 → partitaref01_digits.l0 k (x : Int) s = some (⟨(decDigits x).toArray⟩ ++ s) := by
  intro n
  induction n with
  | zero =>
    intro x k s hx hk hn hs hu
    obtain ⟨k, rfl⟩ : ∃ m, k = m + 1 := ⟨k - 1, by omega⟩
    have hx' : x < 10 := by simpa using hx
    rw [partitaref01_digits.l0, if_neg (by omega), Option.bind_some, one_digit (by omega) (by omega), if_pos (by have : (⟨#[UInt8.ofNat (48 + ((x : Int)).toNat)]⟩ : ByteArray).size = 1 := rfl; omega), dd_small hx', Int.toNat_natCast]
  | succ n ih =>
    intro x k s hx hk hn hs hu
    obtain ⟨k, rfl⟩ : ∃ m, k = m + 1 := ⟨k - 1, by omega⟩
    by_cases h : x < 10
    · rw [partitaref01_digits.l0, if_neg (by omega), Option.bind_some, one_digit (by omega) (by omega), if_pos (by have : (⟨#[UInt8.ofNat (48 + ((x : Int)).toNat)]⟩ : ByteArray).size = 1 := rfl; omega), dd_small h, Int.toNat_natCast]
    · have hone : (⟨#[UInt8.ofNat (48 + (((x : Int) % 10)).toNat)]⟩ : ByteArray).size = 1 := rfl
      have hq : IntKind.u64.wrap ((x : Int) / 10) = ((x / 10 : Nat) : Int) := by rw [uw]; omega
      rw [partitaref01_digits.l0, if_pos (by omega), Option.bind_some, tmod_pos (by omega), one_digit (by omega) (by omega), if_pos (by omega), tdiv_pos (by omega), hq]
      rw [ih (x / 10) k _ (by rw [Nat.pow_succ] at hx; omega) (by omega) (by omega) (by rw [ByteArray.size_append]; omega) (by omega), dd_big h]
      congr 1
      refine same_data ?_
      have e : (((x : Int) % 10)).toNat = x % 10 := by omega
      rw [e]
      simp [ByteArray.data_append]
theorem Number_eq {k : Nat} (hk : 30 ≤ k) {n : Int} (h : I64 n) : partitaref01_Number.f k n = some ⟨(itoa n).toArray⟩ := by
  obtain ⟨h0, h1⟩ := h
  have big : (18446744073709551616 : Nat) ≤ 10 ^ (19 + 1) := by decide
  unfold partitaref01_Number.f
  by_cases hn : n < 0
  · rw [if_pos hn, size_eq ⟨h0, h1⟩, Option.bind_some]
    unfold partitaref01_digits.f
    rw [digits_run 19 n.natAbs k _ (by omega) (by omega) (by omega) (by decide) (by omega), Option.bind_some]
    have hl := digits_run 19 n.natAbs k (⟨#[]⟩ : ByteArray) (by omega) (by omega) (by omega) (by decide) (by omega)
    have hlen := Lib.itoa_length_le n h0 h1
    unfold itoa at hlen ⊢
    rw [if_pos hn, List.length_cons] at hlen
    have hz : ((⟨(decDigits n.natAbs).toArray⟩ : ByteArray) ++ (⟨#[]⟩ : ByteArray)).size ≤ 30 := by
      rw [ByteArray.size_append, bsize]
      have : (⟨#[]⟩ : ByteArray).size = 0 := rfl
      omega
    rw [if_pos (by omega), if_pos hn]
    congr 1
    refine same_data ?_
    simp [ByteArray.data_append]
  · rw [if_neg hn]
    unfold partitaref01_digits.f
    have hu : IntKind.u64.wrap n = ((n.toNat : Nat) : Int) := by rw [uw]; omega
    rw [hu, digits_run 19 n.toNat k _ (by omega) (by omega) (by omega) (by decide) (by omega), Option.bind_some]
    unfold itoa
    rw [if_neg hn]
    congr 1
    refine same_data ?_
    simp [ByteArray.data_append]
theorem rText_eq {k : Nat} (hk : 150 ≤ k) {p q : Int} (hp : I64 p) (hq : I64 q) : partitaref01_Text.f k p q = some (if Rt p q then (textS p q, 0) else (⟨#[]⟩, 10)) := by
  unfold partitaref01_Text.f
  rw [rright_eq (by omega) hp hq, Option.bind_some]
  by_cases h : Rt p q
  · have z1 := bsize (itoa p)
    have z2 := bsize (itoa q)
    have l1 := itoa_length_le p hp.1 hp.2
    have l2 := itoa_length_le q hq.1 hq.2
    rw [if_pos (by simpa using h), if_pos h, Number_eq (by omega) hp, Number_eq (by omega) hq, Option.bind_some]
    by_cases h1 : q = 1
    · rw [if_pos h1]
      unfold textS
      rw [if_pos h1]
    · have z0 : (⟨#[47]⟩ : ByteArray).size = 1 := rfl
      rw [if_neg h1, Option.bind_some, if_pos (by omega), Option.bind_some, if_pos (by rw [ByteArray.size_append]; omega)]
      unfold textS
      rw [if_neg h1, ByteArray.append_assoc]
  · rw [if_neg (by simpa using h), if_neg h]
/-- the number of some digits, behind acc -/
def dv (acc : Nat) : List UInt8 → Nat
  | [] => acc
  | c :: r => dv (acc * 10 + (c.toNat - 48)) r
theorem dv_snoc (c : UInt8) : ∀ (l : List UInt8) (acc : Nat), dv acc (l ++ [c]) = dv acc l * 10 + (c.toNat - 48) := by
  intro l
  induction l with
  | nil => intro acc; rfl
  | cons a r ih => intro acc; exact ih _
theorem dv_ge : ∀ (l : List UInt8) (acc : Nat), acc ≤ dv acc l := by
  intro l
  induction l with
  | nil => intro acc; exact Nat.le_refl _
  | cons a r ih => intro acc; exact Nat.le_trans (by omega) (ih _)
theorem dv_dd (u : Nat) : dv 0 (decDigits u) = u := by
  induction u using Nat.strongRecOn with
  | _ u ih =>
    by_cases h : u < 10
    · rw [dd_small h]
      show 0 * 10 + ((UInt8.ofNat (48 + u)).toNat - 48) = u
      rw [dig_nat h]; omega
    · rw [dd_big h, dv_snoc, ih (u / 10) (by omega), dig_nat (by omega)]; omega
theorem bt_nat (s : ByteArray) (i : Nat) (h : i < s.size) : bt s (i : Int) = ((s[i]'h).toNat : Int) := by
  unfold bt
  rw [dif_pos (by rw [Int.toNat_natCast]; exact h)]
  simp
theorem w64 (x : Int) : I64 (wrap64 x) := by unfold wrap64 I64; omega
/-- the number's end: told, whatever the digits were -/
theorem rn_end (k : Nat) (hk : 31 ≤ k) (s t : ByteArray) (x : Int) (hx : I64 x) : ∃ n b, (if (t.size : Int) < (s.size : Int) then ((partitaref01_Number.f k (wrap64 (-x))).bind fun t266 => (some (wrap64 (-x), (t266.toList == s.toList)))) else ((partitaref01_Number.f k x).bind fun t267 => (some (x, (t267.toList == s.toList))))) = some (n, b) ∧ I64 n := by
  split
  · rw [Number_eq (by omega) (w64 _), Option.bind_some]
    exact ⟨_, _, rfl, w64 _⟩
  · rw [Number_eq (by omega) hx, Option.bind_some]
    exact ⟨_, _, rfl, hx⟩
theorem rn_tot (s t : ByteArray) (ht : t.size ≤ 100) : ∀ (d k i : Nat) (x : Int), I64 x → t.size ≤ d + i → d + 40 ≤ k → ∃ n b, partitaref01_ReadNumber.l0 k s t x (i : Int) = some (n, b) ∧ I64 n := by
  intro d
  induction d with
  | zero =>
    intro k i x hx hd hk
    obtain ⟨k, rfl⟩ : ∃ m, k = m + 1 := ⟨k - 1, by omega⟩
    rw [partitaref01_ReadNumber.l0, if_neg (by omega)]
    exact rn_end k (by omega) s t x hx
  | succ d ih =>
    intro k i x hx hd hk
    obtain ⟨k, rfl⟩ : ∃ m, k = m + 1 := ⟨k - 1, by omega⟩
    rw [partitaref01_ReadNumber.l0]
    by_cases hi : (i : Int) < (t.size : Int)
    · rw [if_pos hi, if_pos (by omega)]
      by_cases h1 : bt t (i : Int) < 48
      · rw [if_pos h1]
        exact ⟨0, false, rfl, ⟨by decide, by decide⟩⟩
      · rw [if_neg h1]
        by_cases h2 : bt t (i : Int) > 57
        · rw [if_pos h2]
          exact ⟨0, false, rfl, ⟨by decide, by decide⟩⟩
        · rw [if_neg h2, wr (x := (i : Int) + 1) (by omega) (by omega), show (i : Int) + 1 = ((i + 1 : Nat) : Int) by omega]
          exact ih k (i + 1) _ (w64 _) (by omega) (by omega)
    · rw [if_neg hi]
      exact rn_end k (by omega) s t x hx
theorem rn_run (s t : ByteArray) (ht : t.size ≤ 100) (hd : ∀ c ∈ t.data.toList, 48 ≤ c.toNat ∧ c.toNat ≤ 57) : ∀ (d k i acc : Nat), i + d = t.size → d + 40 ≤ k → dv acc (t.data.toList.drop i) ≤ 1000000000000 →
    ∃ k', 30 ≤ k' ∧ partitaref01_ReadNumber.l0 k s t (acc : Int) (i : Int) = (if (t.size : Int) < (s.size : Int) then ((partitaref01_Number.f k' (wrap64 (-((dv acc (t.data.toList.drop i) : Nat) : Int)))).bind fun t266 => (some (wrap64 (-((dv acc (t.data.toList.drop i) : Nat) : Int)), (t266.toList == s.toList)))) else ((partitaref01_Number.f k' ((dv acc (t.data.toList.drop i) : Nat) : Int)).bind fun t267 => (some (((dv acc (t.data.toList.drop i) : Nat) : Int), (t267.toList == s.toList))))) := by
  intro d
  induction d with
  | zero =>
    intro k i acc hi hk hv
    obtain ⟨k, rfl⟩ : ∃ m, k = m + 1 := ⟨k - 1, by omega⟩
    refine ⟨k, by omega, ?_⟩
    have e : t.data.toList.drop i = [] := List.drop_eq_nil_of_le (by rw [← size_list]; omega)
    rw [partitaref01_ReadNumber.l0, if_neg (by omega), e]
    rfl
  | succ d ih =>
    intro k i acc hi hk hv
    obtain ⟨k, rfl⟩ : ∃ m, k = m + 1 := ⟨k - 1, by omega⟩
    have hlt : i < t.size := by omega
    have hll : i < t.data.toList.length := by rw [← size_list]; exact hlt
    have e : t.data.toList.drop i = t.data.toList[i] :: t.data.toList.drop (i + 1) := List.drop_eq_getElem_cons hll
    have hc := hd _ (List.getElem_mem hll)
    have eb : bt t (i : Int) = ((t.data.toList[i]).toNat : Int) := by
      rw [bt_nat t i hlt]; rfl
    rw [e] at hv
    have hge := dv_ge (t.data.toList.drop (i + 1)) (acc * 10 + ((t.data.toList[i]).toNat - 48))
    have hv2 : dv acc (t.data.toList[i] :: t.data.toList.drop (i + 1)) = dv (acc * 10 + ((t.data.toList[i]).toNat - 48)) (t.data.toList.drop (i + 1)) := rfl
    rw [hv2] at hv
    rw [partitaref01_ReadNumber.l0, if_pos (by omega), if_pos (by omega), eb, if_neg (by omega), if_neg (by omega), wr (x := (acc : Int) * 10) (by omega) (by omega), wr (x := (acc : Int) * 10 + _) (by omega) (by omega), wr (x := (i : Int) + 1) (by omega) (by omega)]
    have e1 : (acc : Int) * 10 + (((t.data.toList[i]).toNat : Int) - 48) % 256 = ((acc * 10 + ((t.data.toList[i]).toNat - 48) : Nat) : Int) := by omega
    rw [e1, show (i : Int) + 1 = ((i + 1 : Nat) : Int) by omega]
    obtain ⟨k', h1, h2⟩ := ih k (i + 1) (acc * 10 + ((t.data.toList[i]).toNat - 48)) (by omega) (by omega) hv
    refine ⟨k', h1, ?_⟩
    rw [h2, e, hv2]
theorem dd_len : ∀ (m u : Nat), u < 10 ^ (m + 1) → (decDigits u).length ≤ m + 1 := by
  intro m
  induction m with
  | zero => intro u h; rw [dd_small (by simpa using h)]; exact Nat.le_refl _
  | succ m ih =>
    intro u h
    by_cases h1 : u < 10
    · rw [dd_small h1]; simp
    · rw [dd_big h1, List.length_append, List.length_singleton]
      have := ih (u / 10) (by rw [Nat.pow_succ] at h; omega)
      omega
theorem ReadNumber_tot {k : Nat} (hk : 300 ≤ k) (s : ByteArray) (hs : s.size ≤ 50) : ∃ n b, partitaref01_ReadNumber.f k s = some (n, b) ∧ I64 n := by
  obtain ⟨k, rfl⟩ : ∃ m, k = m + 3 := ⟨k - 3, by omega⟩
  have j2 : ∀ t : ByteArray, t.size ≤ 50 → ∀ b, ∃ n c, partitaref01_ReadNumber.j2 (k + 1) s t b = some (n, c) ∧ I64 n := by
    intro t ht b
    rw [partitaref01_ReadNumber.j2]
    split
    · exact ⟨0, false, rfl, ⟨by decide, by decide⟩⟩
    · exact rn_tot s t (by omega) 50 k 0 0 ⟨by decide, by decide⟩ (by omega) (by omega)
  have j1 : ∀ t : ByteArray, t.size ≤ 50 → ∃ n c, partitaref01_ReadNumber.j1 (k + 2) s t = some (n, c) ∧ I64 n := by
    intro t ht
    rw [partitaref01_ReadNumber.j1]
    split
    · exact j2 t ht _
    · exact j2 t ht _
  unfold partitaref01_ReadNumber.f
  by_cases h : (s.size : Int) > 0
  · rw [if_pos h, if_pos (by omega), partitaref01_ReadNumber.j0]
    split
    · rw [if_pos (by omega)]
      exact j1 _ (by rw [ByteArray.size_extract]; omega)
    · exact j1 s hs
  · rw [if_neg h, partitaref01_ReadNumber.j0, if_neg (by decide)]
    exact j1 s hs
theorem list_eq {a b : ByteArray} (h : a.data.toList = b.data.toList) : a.toList = b.toList := by rw [same_data h]
theorem ReadNumber_itoa {k : Nat} (hk : 300 ≤ k) {n : Int} (hn : n.natAbs ≤ 1000000000) : partitaref01_ReadNumber.f k ⟨(itoa n).toArray⟩ = some (n, true) := by
  obtain ⟨k, rfl⟩ : ∃ m, k = m + 3 := ⟨k - 3, by omega⟩
  have hl := dd_len 9 n.natAbs (by have : (10 : Nat) ^ (9 + 1) = 10000000000 := by decide
                                   omega)
  obtain ⟨c, r, hc, _⟩ := dd_cons n.natAbs
  have hcd := dd_digit n.natAbs c (by rw [hc]; simp)
  have core : ∀ (s t : ByteArray), t.data.toList = decDigits n.natAbs → ∃ k', 30 ≤ k' ∧ partitaref01_ReadNumber.j1 (k + 2) s t = (if (t.size : Int) < (s.size : Int) then ((partitaref01_Number.f k' (wrap64 (-((n.natAbs : Nat) : Int)))).bind fun t266 => (some (wrap64 (-((n.natAbs : Nat) : Int)), (t266.toList == s.toList)))) else ((partitaref01_Number.f k' ((n.natAbs : Nat) : Int)).bind fun t267 => (some (((n.natAbs : Nat) : Int), (t267.toList == s.toList))))) := by
    intro s t ht
    have hts : t.size = (decDigits n.natAbs).length := by rw [size_list, ht]
    have h1 : 1 ≤ (decDigits n.natAbs).length := by rw [hc]; simp
    rw [partitaref01_ReadNumber.j1, if_neg (by omega), partitaref01_ReadNumber.j2, if_neg (by rw [decide_eq_true_iff]; omega)]
    obtain ⟨k', g1, g2⟩ := rn_run s t (by omega) (by rw [ht]; exact dd_digit _) t.size k 0 0 (by omega) (by omega) (by rw [List.drop_zero, ht, dv_dd]; omega)
    rw [List.drop_zero, ht, dv_dd] at g2
    exact ⟨k', g1, g2⟩
  unfold partitaref01_ReadNumber.f
  have hsz := bsize (itoa n)
  by_cases h : n < 0
  · have hi : itoa n = 45 :: decDigits n.natAbs := by unfold itoa; rw [if_pos h]
    have hz : 0 < (⟨(itoa n).toArray⟩ : ByteArray).size := by rw [hsz, hi]; simp
    have hb : bt ⟨(itoa n).toArray⟩ 0 = 45 := by
      have := bt_nat ⟨(itoa n).toArray⟩ 0 hz
      rw [show (0 : Int) = ((0 : Nat) : Int) from rfl, this]
      have : ((⟨(itoa n).toArray⟩ : ByteArray)[0]'hz) = (itoa n).toArray[0]'(by rw [List.size_toArray, hi]; simp) := rfl
      rw [this]
      simp [hi]
    rw [if_pos (by omega), if_pos (by omega), hb, partitaref01_ReadNumber.j0, if_pos (by decide), if_pos (by omega)]
    obtain ⟨k', g1, g2⟩ := core ⟨(itoa n).toArray⟩ ((⟨(itoa n).toArray⟩ : ByteArray).extract 1 (⟨(itoa n).toArray⟩ : ByteArray).size) (by rw [extract_data, hi]; simp [hsz, hi]; apply List.take_of_length_le; simp [ByteArray.size])
    have hlt : ((((⟨(itoa n).toArray⟩ : ByteArray).extract 1 (⟨(itoa n).toArray⟩ : ByteArray).size).size : Nat) : Int) < (((⟨(itoa n).toArray⟩ : ByteArray).size : Nat) : Int) := by rw [ByteArray.size_extract]; omega
    rw [g2, if_pos hlt, wr (x := -((n.natAbs : Nat) : Int)) (by omega) (by omega), show -((n.natAbs : Nat) : Int) = n by omega, Number_eq g1 ⟨by omega, by omega⟩, Option.bind_some, beq_self_eq_true]
  · have hi : itoa n = decDigits n.natAbs := by unfold itoa; rw [if_neg h, show n.toNat = n.natAbs by omega]
    have hz : 0 < (⟨(itoa n).toArray⟩ : ByteArray).size := by rw [hsz, hi, hc]; simp
    have hb : bt ⟨(itoa n).toArray⟩ 0 ≠ 45 := by
      have := bt_nat ⟨(itoa n).toArray⟩ 0 hz
      rw [show (0 : Int) = ((0 : Nat) : Int) from rfl, this]
      have e : ((⟨(itoa n).toArray⟩ : ByteArray)[0]'hz) = (itoa n).toArray[0]'(by rw [List.size_toArray, hi, hc]; simp) := rfl
      have e2 : ((⟨(itoa n).toArray⟩ : ByteArray)[0]'hz) = c := by rw [e]; simp [hi, hc]
      rw [e2]
      omega
    rw [if_pos (by omega), if_pos (by omega), beq_eq_false_iff_ne.2 hb, partitaref01_ReadNumber.j0, if_neg (by decide)]
    obtain ⟨k', g1, g2⟩ := core ⟨(itoa n).toArray⟩ ⟨(itoa n).toArray⟩ (by simp [hi])
    rw [g2, if_neg (by omega), show ((n.natAbs : Nat) : Int) = n by omega, Number_eq g1 ⟨by omega, by omega⟩, Option.bind_some, beq_self_eq_true]
end Go.Proofs.YtofolkbappinhaaDoor.Pure
