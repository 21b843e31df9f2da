/- What is read of a text of any kind. -/
import Derived.Test.YtajbnfidcpfonaaGreatDoorPureTrip
set_option linter.unusedVariables false
set_option linter.unusedSimpArgs false
namespace Go.Proofs.YtajbnfidcpfonaaGreatDoor.Pure
open Go.RowKit Go.Proofs.YtajbnfidcpfonaaGreatDoor.M Go.Proofs.YtajbnfidcpfonaaGreatDoorW.PrintWords Go.Proofs.YtajbnfidcpfonaaGreatDoorW.PrintLast Go.Proofs.YtajbnfidcpfonaaGreatDoorW.PrintMore

theorem cut_len (s sep : List UInt8) : (Lib.cut s sep).1.length ≤ s.length ∧ (Lib.cut s sep).2.1.length ≤ s.length := by
  unfold Lib.cut
  split
  · exact ⟨by rw [List.length_take]; omega, by rw [List.length_drop]; omega⟩
  · exact ⟨Nat.le_refl _, Nat.zero_le _⟩
theorem Cut_eq (s sep : ByteArray) (hs : s.size ≤ 1000000000) : ∃ c1 c2 b, strings_Cut.f s sep = some (c1, c2, b) ∧ c1.size ≤ s.size ∧ c2.size ≤ s.size := by
  unfold strings_Cut.f
  rw [if_pos hs]
  have h := cut_len s.data.toList sep.data.toList
  have hl : s.data.toList.length = s.size := Array.length_toList
  refine ⟨_, _, _, rfl, ?_, ?_⟩
  · show (Lib.cut s.data.toList sep.data.toList).1.toArray.size ≤ _
    rw [List.size_toArray]; omega
  · show (Lib.cut s.data.toList sep.data.toList).2.1.toArray.size ≤ _
    rw [List.size_toArray]; omega
theorem Trim_eq (s : ByteArray) (hs : s.size ≤ 1000000000) : ∃ c, strings_TrimRight.f s ⟨#[46]⟩ = some c := by
  refine ⟨⟨(Lib.trimRightB s.data.toList 46).toArray⟩, ?_⟩
  show (if (46 : UInt8).toNat < 128 ∧ s.size ≤ 1000000000 then some _ else none) = _
  rw [if_pos ⟨by decide, hs⟩]
theorem Atoi_eq (s : ByteArray) (hs : s.size ≤ 281474976710656) : ∃ n, strconv_Atoi.f s = some (n, 0) := by
  unfold strconv_Atoi.f
  rw [if_pos hs]
  exact ⟨_, rfl⟩
def ReadOk (s : ByteArray) (r : Int × Int × Int × Int × Int) : Prop :=
  (r.2.2.2.2 = 0 ∧ VR r.1 r.2.1 r.2.2.1 r.2.2.2.1 ∧ ∃ t, value_Text.f 10 r.1 r.2.1 r.2.2.1 r.2.2.2.1 = some (t, 0) ∧ t.toList = s.toList) ∨ r = (0, 0, 0, 0, 12)
theorem read_loop (s x7 : ByteArray) (d n m : Int) (k : Nat) (hk : 10 ≤ k) : ∀ j i : Nat, i + j = 7 → ∀ b : Int, ∃ r, value_Read.l0 (k + j + 1) s x7 i b d n m = some r ∧ ReadOk s r := by
  intro j
  induction j with
  | zero =>
    intro i hi b
    rw [value_Read.l0, if_neg (by omega)]
    by_cases hv : VR b d n m
    · obtain ⟨t, ht, _⟩ := Text_trip hv
      rw [text_at (by omega) ht, Option.bind_some]
      dsimp only
      rw [if_pos rfl]
      by_cases he : t.toList = s.toList
      · rw [if_pos he]; exact ⟨_, rfl, .inl ⟨rfl, hv, t, ht, he⟩⟩
      · rw [if_neg he]; exact ⟨_, rfl, .inr rfl⟩
    · rw [Text_no (by omega) hv, Option.bind_some]
      dsimp only
      rw [if_neg (by decide)]; exact ⟨_, rfl, .inr rfl⟩
  | succ j ih =>
    intro i hi b
    have e1 : shl .i64 1 (i : Int) = 1 * 2 ^ (i : Int).toNat := shl_eq (by omega) (by omega) (by decide)
    obtain ⟨p, e2, p1, p2⟩ := pow_small (b := (i : Int)) (by omega) (by omega)
    rw [show k + (j + 1) + 1 = (k + j + 1) + 1 from by omega, value_Read.l0, if_pos (by omega), if_pos (by omega), e1, e2]
    have e3 : ∃ t, strconv_Itoa.f (1 * (p : Int)) = some t := by
      unfold strconv_Itoa.f
      rw [if_pos ⟨by omega, by omega⟩]; exact ⟨_, rfl⟩
    obtain ⟨t, e3⟩ := e3
    rw [e3, Option.bind_some, wr (x := (i : Int) + 1) (by omega) (by omega), show (i : Int) + 1 = ((i + 1 : Nat) : Int) from by omega]
    by_cases he : t.toList = x7.toList
    · rw [if_pos he]; exact ih (i + 1) (by omega) _
    · rw [if_neg he]; exact ih (i + 1) (by omega) _
theorem read_any {k : Nat} (hk : 60 ≤ k) (s : ByteArray) (hs : s.size ≤ 1000000000) : ∃ r, value_Read.f k s = some r ∧ ReadOk s r := by
  obtain ⟨c1, c2, b, e1, z1, z2⟩ := Cut_eq s ⟨#[42]⟩ hs
  obtain ⟨c, e2⟩ := Trim_eq c1 (by omega)
  obtain ⟨d1, d2, b', e3, y1, y2⟩ := Cut_eq c2 ⟨#[58]⟩ (by omega)
  obtain ⟨n, e4⟩ := Atoi_eq d1 (by omega)
  obtain ⟨m, e5⟩ := Atoi_eq d2 (by omega)
  unfold value_Read.f
  rw [e1, Option.bind_some]
  dsimp only
  rw [e2, Option.bind_some, e3, Option.bind_some]
  dsimp only
  rw [e4, Option.bind_some, e5, Option.bind_some]
  dsimp only
  have := read_loop s c (wrap64 ((c1.size : Int) - (c.size : Int))) n m (k - 8) (by omega) 7 0 rfl 0
  rw [show k - 8 + 7 + 1 = k from by omega] at this
  exact this

end Go.Proofs.YtajbnfidcpfonaaGreatDoor.Pure
