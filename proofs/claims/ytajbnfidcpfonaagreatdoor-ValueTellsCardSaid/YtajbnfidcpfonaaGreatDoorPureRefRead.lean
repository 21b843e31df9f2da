/- What the reference reads is what the program reads. -/
import Derived.Test.YtajbnfidcpfonaaGreatDoorPureRefTrip
import Derived.Test.YtajbnfidcpfonaaGreatDoorPureRead
import Derived.Test.YtajbnfidcpfonaaGreatDoorPureRefVal
set_option linter.unusedVariables false
set_option linter.unusedSimpArgs false
namespace Go.Proofs.YtajbnfidcpfonaaGreatDoor.Pure
open Go.RowKit Go.Proofs.Qx Go.Proofs.YtajbnfidcpfonaaGreatDoor.M Go.Proofs.YtajbnfidcpfonaaGreatDoorW.PrintWords Go.Proofs.YtajbnfidcpfonaaGreatDoorW.PrintLast Go.Proofs.YtajbnfidcpfonaaGreatDoorW.PrintMore
set_option maxRecDepth 100000

/-! ### what the reference reads -/
def ReadOk4 (s : ByteArray) (r : Int × Int × Int × Int × Int) : Prop :=
  (r.2.2.2.2 = 0 ∧ VR r.1 r.2.1 r.2.2.1 r.2.2.2.1 ∧ ∃ t, r4_Text.f 50000 r.1 r.2.1 r.2.2.1 r.2.2.2.1 = some (t, 0) ∧ t.toList = s.toList) ∨ r = (0, 0, 0, 0, 12)
theorem text4 {b d n m : Int} (h : VR b d n m) : ∃ t, value_Text.f 10 b d n m = some (t, 0) ∧ value_Read.f 60 t = some (b, d, n, m, 0) ∧ r4_Text.f 50000 b d n m = some (t, 0) ∧ r4_Read.f 50000 t = some (b, d, n, m, 0) := by
  obtain ⟨t, h1, h2⟩ := Text_trip h
  have h3 := trip4_ok h
  unfold trip4 at h3
  rw [h1] at h3
  simp only [Bool.and_eq_true, decide_eq_true_eq] at h3
  exact ⟨t, h1, h2, h3.1, h3.2⟩
theorem text4_no {b d n m : Int} (h : ¬ VR b d n m) : r4_Text.f 50000 b d n m = some (⟨#[]⟩, 40) := by
  unfold r4_Text.f r4_Text.t
  rw [right4, Option.bind_some, decide_eq_false h, Bool.not_false, cond_true]
theorem cut_run (s : ByteArray) (c : Int) (hs : s.size ≤ 1000000) (K : Nat) : ∀ (j i k : Nat), i + j = s.size → j < k →
    ∃ r, r4_Cut.L2 K k (s, c, ⟨#[]⟩, ⟨#[]⟩, false, (i : Int)) = some r ∧ ((∃ a b h, r = .inl (s, a, b, h)) ∨ (∃ a b h, r = .inr (a, b, h) ∧ a.size ≤ s.size ∧ b.size ≤ s.size)) := by
  intro j
  induction j with
  | zero =>
    intro i k hi hk
    obtain ⟨k, rfl⟩ : ∃ m, k = m + 1 := ⟨k - 1, by omega⟩
    rw [r4_Cut.L2]
    dsimp only
    rw [r4_Cut.L2.S, decide_eq_false (by omega), cond_false]
    exact ⟨_, rfl, .inl ⟨_, _, _, rfl⟩⟩
  | succ j ih =>
    intro i k hi hk
    obtain ⟨k, rfl⟩ : ∃ m, k = m + 1 := ⟨k - 1, by omega⟩
    rw [r4_Cut.L2]
    dsimp only
    have hw : IntKind.i64.wrap ((i : Int) + 1) = ((i + 1 : Nat) : Int) := wrI (by omega) (by omega)
    rw [r4_Cut.L2.S, decide_eq_true (by omega), cond_true, if_pos (by omega)]
    cases byteAt s (i : Int) == c with
    | true =>
      rw [cond_true, if_pos (by omega), if_pos (by omega), if_pos (by omega), hw, if_pos (by omega)]
      refine ⟨_, rfl, .inr ⟨_, _, _, rfl, ?_, ?_⟩⟩
      · rw [ByteArray.size_extract]; omega
      · rw [ByteArray.size_extract]; omega
    | false =>
      rw [cond_false, hw]
      exact ih (i + 1) k (by omega) (by omega)
theorem cut4 (s : ByteArray) (c : Int) (hs : s.size ≤ 1000) : ∃ a b h, r4_Cut.f 50000 s c = some (a, b, h) ∧ a.size ≤ s.size ∧ b.size ≤ s.size := by
  obtain ⟨r, h, hr⟩ := cut_run s c (by omega) 50000 s.size 0 50000 (by omega) (by omega)
  unfold r4_Cut.f r4_Cut.t
  rw [show (0 : Int) = ((0 : Nat) : Int) from rfl, h, Option.bind_some]
  rcases hr with ⟨a, b, c, rfl⟩ | ⟨a, b, c, rfl, h1, h2⟩
  · exact ⟨s, ⟨#[]⟩, false, rfl, Nat.le_refl _, Nat.zero_le _⟩
  · exact ⟨a, b, c, rfl, h1, h2⟩
section
variable (K : Nat) (f11 : Int → Int → Int → Int → Option (ByteArray × Int)) (f23 : ByteArray → Int → Option (ByteArray × ByteArray × Bool)) (f24 : ByteArray → Option (Int × Bool))
theorem trim_run (f25 : Int → Option Int) (x0 : ByteArray) (x1 : Int) (x3 : ByteArray) (x4 : Bool) (x5 x6 x7 x8 x9 x11 x12 : Int) : ∀ (j k : Nat) (x2 : ByteArray) (x10 : Int), x2.size ≤ j → x2.size ≤ 1000000 → j < k →
    ∃ h d, r4_Read.L3 K f11 f23 f24 f25 k (x0, x1, x2, x3, x4, x5, x6, x7, x8, x9, x10, x11, x12) = some (x0, x1, h, x3, x4, x5, x6, x7, x8, x9, d, x11, x12) ∧ h.size ≤ x2.size := by
  intro j
  induction j with
  | zero =>
    intro k x2 x10 hj hs hk
    obtain ⟨k, rfl⟩ : ∃ m, k = m + 1 := ⟨k - 1, by omega⟩
    rw [r4_Read.L3]
    dsimp only
    rw [r4_Read.L3.S, decide_eq_false (by omega), cond_false]
    exact ⟨_, _, rfl, Nat.le_refl _⟩
  | succ j ih =>
    intro k x2 x10 hj hs hk
    obtain ⟨k, rfl⟩ : ∃ m, k = m + 1 := ⟨k - 1, by omega⟩
    rw [r4_Read.L3]
    dsimp only
    by_cases h : (x2.size : Int) > 0
    · have hw : IntKind.i64.wrap ((x2.size : Int) - 1) = (x2.size : Int) - 1 := wrI (by omega) (by omega)
      rw [r4_Read.L3.S, decide_eq_true h, cond_true, hw, if_pos (by omega)]
      cases byteAt x2 ((x2.size : Int) - 1) == 46 with
      | true =>
        have hz : (x2.extract (Int.toNat 0) ((x2.size : Int) - 1).toNat).size + 1 = x2.size := by rw [ByteArray.size_extract]; omega
        rw [cond_true, if_pos (by omega), if_pos (by omega)]
        obtain ⟨h', d', e, hl⟩ := ih k (x2.extract (Int.toNat 0) ((x2.size : Int) - 1).toNat) (IntKind.i64.wrap (x10 + 1)) (by omega) (by omega) (by omega)
        exact ⟨h', d', e, by omega⟩
      | false =>
        rw [cond_false]
        exact ⟨_, _, rfl, Nat.le_refl _⟩
    · rw [r4_Read.L3.S, decide_eq_false h, cond_false]
      exact ⟨_, _, rfl, Nat.le_refl _⟩
theorem base_run {K' : Nat} (hK : 10 ≤ K') (x0 : ByteArray) (x1 : Int) (x2 : ByteArray) (x3 : Bool) (x4 : Int) (x5 : Bool) (x6 x7 x8 x9 x11 x12 x13 : Int) : ∀ (j k : Nat) (x10 : Int), x10 + j = 6 → 0 ≤ x10 → j < k →
    ∃ b, r4_Read.L7 K f11 f23 f24 (r4_power.f K') k (x0, x1, x2, x3, x4, x5, x6, x7, x8, x9, x10, x11, x12, x13) = some (x0, x1, x2, x3, x5, x6, x7, x8, x9, b, x11, x12, x13) := by
  intro j
  induction j with
  | zero =>
    intro k x10 hj h0 hk
    obtain ⟨k, rfl⟩ : ∃ m, k = m + 1 := ⟨k - 1, by omega⟩
    rw [r4_Read.L7]
    dsimp only
    rw [r4_Read.L7.S, decide_eq_false (by omega), cond_false]
    exact ⟨_, rfl⟩
  | succ j ih =>
    intro k x10 hj h0 hk
    obtain ⟨k, rfl⟩ : ∃ m, k = m + 1 := ⟨k - 1, by omega⟩
    rw [r4_Read.L7]
    dsimp only
    rw [r4_Read.L7.S, decide_eq_true (by omega), cond_true, pow4 hK h0 (by omega), Option.bind_some]
    cases decide ((2 : Int) ^ x10.toNat < x4) with
    | true =>
      rw [cond_true, wrI (x := x10 + 1) (by omega) (by omega)]
      exact ih k (x10 + 1) (by omega) (by omega) (by omega)
    | false =>
      rw [cond_false]
      exact ⟨_, rfl⟩
end
theorem fin4 (s : ByteArray) (b d n m : Int) (two : Bool) : ∃ r, ((r4_Text.f 50000 b d n m).bind fun v10 => bif !two then some ((0 : Int), (0 : Int), (0 : Int), (0 : Int), (12 : Int)) else bif !(v10.snd == (0 : Int)) then some ((0 : Int), (0 : Int), (0 : Int), (0 : Int), (12 : Int)) else bif !(v10.fst.toList == s.toList) then some ((0 : Int), (0 : Int), (0 : Int), (0 : Int), (12 : Int)) else some (b, d, n, m, (0 : Int))) = some r ∧ ReadOk4 s r := by
  by_cases hv : VR b d n m
  · obtain ⟨t, _, _, h3, _⟩ := text4 hv
    rw [h3, Option.bind_some]
    cases two with
    | false => exact ⟨_, rfl, .inr rfl⟩
    | true =>
      dsimp only [Bool.not_true, cond_false]
      rw [beq_self_eq_true, Bool.not_true, cond_false]
      cases hl : t.toList == s.toList with
      | true => exact ⟨_, rfl, .inl ⟨rfl, hv, t, h3, beq_iff_eq.1 hl⟩⟩
      | false => exact ⟨_, rfl, .inr rfl⟩
  · rw [text4_no hv, Option.bind_some]
    cases two with
    | false => exact ⟨_, rfl, .inr rfl⟩
    | true => exact ⟨_, rfl, .inr rfl⟩
theorem text4_tot (b d n m : Int) : ∃ r, r4_Text.f 50000 b d n m = some r := by
  by_cases hv : VR b d n m
  · obtain ⟨t, _, _, h3, _⟩ := text4 hv; exact ⟨_, h3⟩
  · exact ⟨_, text4_no hv⟩
theorem read4_any (s : ByteArray) (hs : s.size ≤ 50) : ∃ r, r4_Read.f 50000 s = some r ∧ ReadOk4 s r := by
  obtain ⟨hd, tp, has, e1, z1, z2⟩ := cut4 s 42 (by omega)
  obtain ⟨nm, dots, e2, z3⟩ := trim_run 50000 (r4_Text.f 50000) (r4_Cut.f 50000) (partitaref01_ReadNumber.f 50000) (r4_power.f 50000) s 0 tp has 0 0 0 0 0 0 0 50 50000 hd 0 (by omega) (by omega) (by omega)
  obtain ⟨n, ok, e3, _⟩ := ReadNumber_tot (k := 50000) (by omega) nm (by omega)
  obtain ⟨b, e4⟩ := base_run 50000 (r4_Text.f 50000) (r4_Cut.f 50000) (partitaref01_ReadNumber.f 50000) (K' := 50000) (by omega) s 0 tp has n ok 0 0 0 0 dots 0 0 6 50000 0 rfl (by decide) (by omega)
  unfold r4_Read.f r4_Read.t
  rw [e1, Option.bind_some]
  dsimp only
  rw [e2, Option.bind_some]
  dsimp only
  rw [e3, Option.bind_some]
  dsimp only
  rw [e4, Option.bind_some]
  dsimp only
  cases has with
  | false =>
    rw [cond_false]
    exact fin4 s b dots 0 0 ok
  | true =>
    rw [cond_true]
    obtain ⟨a', b', h', g1, y1, y2⟩ := cut4 tp 58 (by omega)
    obtain ⟨x, one, g2, _⟩ := ReadNumber_tot (k := 50000) (by omega) a' (by omega)
    obtain ⟨y, two, g3, _⟩ := ReadNumber_tot (k := 50000) (by omega) b' (by omega)
    rw [g1, Option.bind_some]
    dsimp only
    rw [g2, Option.bind_some, g3, Option.bind_some]
    dsimp only
    have hJ : ∀ v4 v7 v8, ∃ r, r4_Read.t.J4 (r4_Text.f 50000) v4 v7 v8 = some r ∧ ReadOk4 s r := by
      intro v4 v7 v8
      unfold r4_Read.t.J4
      obtain ⟨r, hr⟩ := text4_tot v4.snd.snd.snd.snd.snd.snd.snd.snd.snd.fst v4.snd.snd.snd.snd.snd.snd.snd.snd.snd.snd.fst v7.fst v8.fst
      rw [hr, Option.bind_some]
      exact ⟨_, rfl, .inr rfl⟩
    cases ok with
    | false => rw [cond_false]; exact hJ _ _ _
    | true =>
      rw [cond_true]
      cases one with
      | false => rw [cond_false]; exact hJ _ _ _
      | true =>
        rw [cond_true]
        exact fin4 s b dots x y two
theorem same_bytes {a b : ByteArray} (h : a.toList = b.toList) : a = b := by
  rw [ByteArray.toList_eq, ByteArray.toList_eq] at h
  obtain ⟨⟨x⟩⟩ := a
  obtain ⟨⟨y⟩⟩ := b
  obtain rfl : x = y := h
  rfl
/-- Both read alike. -/
theorem read_both (s : ByteArray) (hs : s.size ≤ 50) : ∃ r, value_Read.f 50000 s = some r ∧ r4_Read.f 50000 s = some r := by
  obtain ⟨r, e, hr⟩ := read_any (k := 50000) (by omega) s (by omega)
  obtain ⟨r', e', hr'⟩ := read4_any s hs
  refine ⟨r, e, ?_⟩
  rw [e']
  congr 1
  obtain ⟨b, d, n, m, c⟩ := r
  obtain ⟨b', d', n', m', c'⟩ := r'
  rcases hr with ⟨h0, hv, t, ht, hl⟩ | hr
  · dsimp only at h0 hv ht
    obtain ⟨t2, q1, _, _, q4⟩ := text4 hv
    have et : t = t2 := by rw [ht] at q1; exact (Prod.mk.inj (Option.some.inj q1)).1
    subst et
    have := same_bytes hl
    subst this
    rw [q4] at e'
    rw [← Option.some.inj e', h0]
  · rcases hr' with ⟨h0, hv, t, ht, hl⟩ | hr'
    · dsimp only at h0 hv ht
      obtain ⟨t2, q1, q2, q3, _⟩ := text4 hv
      have et : t = t2 := by rw [ht] at q3; exact (Prod.mk.inj (Option.some.inj q3)).1
      subst et
      have := same_bytes hl
      subst this
      rw [read_at (k := 50000) (by omega) q2] at e
      rw [← Option.some.inj e, h0]
    · rw [hr, hr']

end Go.Proofs.YtajbnfidcpfonaaGreatDoor.Pure
