/- The library's functions that package value calls, in the print's own form: strconv.Itoa, strconv.Atoi, strings.Cut, strings.TrimRight (of one byte below 128), strings.Repeat. -/
import Derived.Test.YtajbnfidcpfonaaGreatDoorGGlob
import Derived.Test.YtajbnfidcpfonaaGreatDoorGShelf
import Derived.RowKit
import Derived.Shelf.Strconv.ErrVarAll
import Derived.Lib.AppendIntMem
import Derived.Lib.AtoiErrMem
namespace Go.Proofs.YtajbnfidcpfonaaGreatDoor.M
open Go.RowKit

/-- the number that Atoi tells, and whether it tells no error -/
def readNum (s : List UInt8) : Int × Bool := match Lib.atoiAll s with
  | .ok v => (v, true)
  | .range => (Lib.atoiSat s, false)
  | _ => (0, false)
theorem atoi_ok (s : ByteArray) (hs : s.size ≤ 281474976710656) (w : World) (h : (readNum s.data.toList).2 = true) :
    Calls Tryz.prog 21 #[.string s] w fun e w' => e = .returned (.tuple #[.int .i64 (readNum s.data.toList).1, .nilIface]) ∧ Below w.heap.size w w' := by
  unfold readNum at h ⊢
  cases hc : Lib.atoiAll s.data.toList
  · rename_i v
    refine (Tryz.strconv_Atoi_ok s (by omega) v hc w).mono ?_
    rintro e w' ⟨rfl, hw⟩
    refine ⟨rfl, ?_⟩
    rcases hw with rfl | ⟨t, rfl⟩
    · exact Below.refl _ _
    · exact Lib.bytesWorld_below w _ t
  · rw [hc] at h; cases h
  · rw [hc] at h; cases h
theorem atoi_no (s : ByteArray) (hs : s.size ≤ 281474976710656) (w : World) (hG_ : GW w) (h : (readNum s.data.toList).2 = false) :
    Calls Tryz.prog 21 #[.string s] w fun e w' => (∃ N, e = .returned (.tuple #[.int .i64 (readNum s.data.toList).1, .iface 97 (.pointer (some ⟨N, 0, none⟩))])) ∧ Below w.heap.size w w' := by
  obtain ⟨_, _, ⟨tp, p, h3⟩, ⟨tq, q, h4⟩⟩ := hG_.1
  unfold readNum at h ⊢
  cases hc : Lib.atoiAll s.data.toList
  · rw [hc] at h; cases h
  · refine (Any.strconv_Atoi_syntax_var Tryz.laysC172 s hs hc tp p w h3).mono ?_
    rintro e w' ⟨N, rfl, _, _, hb⟩
    exact ⟨⟨N, rfl⟩, hb⟩
  · refine (Any.strconv_Atoi_range_var Tryz.laysC172 s hs hc tq q w h4).mono ?_
    rintro e w' ⟨N, rfl, _, _, hb⟩
    exact ⟨⟨N, rfl⟩, hb⟩
def strconv_Itoa.f (a0 : Int) : Option ByteArray :=
  if -9223372036854775808 ≤ a0 ∧ a0 ≤ 9223372036854775807 then some ⟨(Lib.itoa a0).toArray⟩ else none
theorem strconv_Itoa.calls (a0 : Int) (r : ByteArray) (w : World) (hG_ : GW w) (h : strconv_Itoa.f a0 = some r) :
    Calls Tryz.prog 22 #[.int .i64 a0] w fun e w' => e = .returned (.string r) ∧ Below w.heap.size w w' := by
  unfold strconv_Itoa.f at h
  split at h
  · rename_i hc
    obtain rfl := Option.some.inj h
    refine (Tryz.strconv_Itoa a0 hc.1 hc.2 w hG_.1.1).mono ?_
    rintro e w' ⟨rfl, k, os, rfl⟩
    exact ⟨rfl, Lib.below_grow _ w (Nat.le_refl _) _ _⟩
  · cases h
def strings_Repeat.f (a0 : ByteArray) (a1 : Int) : Option ByteArray :=
  if 0 ≤ a1 ∧ a1 ≤ 9223372036854775807 ∧ a0.size * a1.toNat ≤ 140737488355328 then some ⟨(Lib.repeatL a0.data.toList a1.toNat).toArray⟩ else none

theorem strings_Repeat.calls (a0 : ByteArray) (a1 : Int) (r : ByteArray) (w : World) (h : strings_Repeat.f a0 a1 = some r) :
    Calls Tryz.prog 27 #[.string a0, .int .i64 a1] w fun e w' => e = .returned (.string r) ∧ Below w.heap.size w w' := by
  unfold strings_Repeat.f at h
  split at h
  · rename_i hc
    obtain ⟨h0, h1, h2⟩ := hc
    obtain ⟨n, rfl⟩ := Int.eq_ofNat_of_zero_le h0
    obtain rfl := Option.some.inj h
    rw [Int.toNat_natCast] at h2 ⊢
    exact Tryz.strings_Repeat a0 n w (by omega) h2
  · cases h
def strconv_Atoi.f (a0 : ByteArray) : Option (Int × Int) := if a0.size ≤ 281474976710656 then some ((readNum a0.data.toList).1, 0) else none
/-- The second result is some error or none; who calls it here drops it. -/
theorem strconv_Atoi.calls (a0 : ByteArray) (r1 r2 : Int) (w : World) (hG_ : GW w) (h : strconv_Atoi.f a0 = some (r1, r2)) :
    Calls Tryz.prog 21 #[.string a0] w fun e w' => (∃ v, e = .returned (.tuple #[.int .i64 r1, v])) ∧ Below w.heap.size w w' := by
  unfold strconv_Atoi.f at h
  split at h
  · rename_i hs
    have e := Option.some.inj h
    simp only [Prod.mk.injEq] at e
    obtain ⟨rfl, rfl⟩ := e
    cases hb : (readNum a0.data.toList).2
    · refine (atoi_no a0 hs w hG_ hb).mono ?_
      rintro e w' ⟨⟨N, rfl⟩, hb⟩
      exact ⟨⟨_, rfl⟩, hb⟩
    · refine (atoi_ok a0 hs w hb).mono ?_
      rintro e w' ⟨rfl, hb⟩
      exact ⟨⟨_, rfl⟩, hb⟩
  · cases h
def strings_Cut.f (a0 a1 : ByteArray) : Option (ByteArray × ByteArray × Bool) :=
  if a0.size ≤ 1000000000 then some (⟨(Lib.cut a0.data.toList a1.data.toList).1.toArray⟩, ⟨(Lib.cut a0.data.toList a1.data.toList).2.1.toArray⟩, (Lib.cut a0.data.toList a1.data.toList).2.2) else none
theorem strings_Cut.calls (a0 a1 : ByteArray) (r1 r2 : ByteArray) (r3 : Bool) (w : World) (hG_ : GW w) (h : strings_Cut.f a0 a1 = some (r1, r2, r3)) :
    Calls Tryz.prog 19 #[.string a0, .string a1] w fun e w' => e = .returned (.tuple #[.string r1, .string r2, .bool r3]) ∧ Below w.heap.size w w' := by
  unfold strings_Cut.f at h
  split at h
  · rename_i hs
    have e := Option.some.inj h
    simp only [Prod.mk.injEq] at e
    obtain ⟨rfl, rfl, rfl⟩ := e
    obtain ⟨_, ⟨m, hm⟩, _, _⟩ := hG_.1
    refine (Tryz.strings_Cut a0 a1 m w (by omega) hm).mono ?_
    rintro e w' ⟨rfl, n, rfl⟩
    exact ⟨rfl, ⟨rfl, rfl, rfl, Nat.le_refl _, fun _ _ => rfl⟩⟩
  · cases h
def strings_TrimRight.f (a0 a1 : ByteArray) : Option ByteArray :=
  match a1 with
  | ⟨⟨[c]⟩⟩ => if c.toNat < 128 ∧ a0.size ≤ 1000000000 then some ⟨(Lib.trimRightB a0.data.toList c).toArray⟩ else none
  | _ => none
theorem strings_TrimRight.calls (a0 a1 : ByteArray) (r : ByteArray) (w : World) (h : strings_TrimRight.f a0 a1 = some r) :
    Calls Tryz.prog 20 #[.string a0, .string a1] w fun e w' => e = .returned (.string r) ∧ Below w.heap.size w w' := by
  unfold strings_TrimRight.f at h
  split at h
  · rename_i c
    split at h
    · rename_i hc
      obtain rfl := Option.some.inj h
      refine (Tryz.strings_TrimRight_one a0 c hc.1 w (by omega)).mono ?_
      rintro e w' ⟨rfl, rfl⟩
      exact ⟨rfl, Below.refl _ _⟩
    · cases h
  · cases h
end Go.Proofs.YtajbnfidcpfonaaGreatDoor.M
