/- strconv.Atoi and strings.Cut at every string that is not too long: what the number is, whether there is one. -/
import Derived.Test.YtofolkbappinhaaDoorGGlob
import Derived.Test.YtofolkbappinhaaDoorGShelf
import Derived.RowKit
import Derived.Shelf.Strconv.ErrVarAll
import Derived.Lib.AppendIntMem
import Derived.Lib.AtoiErrMem
namespace Go.Proofs.YtofolkbappinhaaDoor.M
open Go.RowKit

/-- the number that Atoi tells, and whether it tells no error -/
def readNum (s : List UInt8) : Int × Bool := match Lib.atoiAll s with
  | .ok v => (v, true)
  | .range => (Lib.atoiSat s, false)
  | _ => (0, false)
theorem atoi_ok (s : ByteArray) (hs : s.size ≤ 281474976710656) (w : World) (h : (readNum s.data.toList).2 = true) :
    Calls Tryd.prog 32 #[.string s] w fun e w' => e = .returned (.tuple #[.int .i64 (readNum s.data.toList).1, .nilIface]) ∧ Below w.heap.size w w' := by
  unfold readNum at h ⊢
  cases hc : Lib.atoiAll s.data.toList
  · rename_i v
    refine (Tryd.strconv_Atoi_ok s (by omega) v hc w).mono ?_
    rintro e w' ⟨rfl, hw⟩
    refine ⟨rfl, ?_⟩
    rcases hw with rfl | ⟨t, rfl⟩
    · exact Below.refl _ _
    · exact Lib.bytesWorld_below w _ t
  · rw [hc] at h; cases h
  · rw [hc] at h; cases h
theorem atoi_no (s : ByteArray) (hs : s.size ≤ 281474976710656) (w : World) (hG_ : GW w) (h : (readNum s.data.toList).2 = false) :
    Calls Tryd.prog 32 #[.string s] w fun e w' => (∃ N, e = .returned (.tuple #[.int .i64 (readNum s.data.toList).1, .iface 65 (.pointer (some ⟨N, 0, none⟩))])) ∧ Below w.heap.size w w' := by
  obtain ⟨_, _, ⟨tp, p, h3⟩, ⟨tq, q, h4⟩⟩ := hG_
  unfold readNum at h ⊢
  cases hc : Lib.atoiAll s.data.toList
  · rw [hc] at h; cases h
  · refine (Any.strconv_Atoi_syntax_var Tryd.laysC172 s hs hc tp p w h3).mono ?_
    rintro e w' ⟨N, rfl, _, _, hb⟩
    exact ⟨⟨N, rfl⟩, hb⟩
  · refine (Any.strconv_Atoi_range_var Tryd.laysC172 s hs hc tq q w h4).mono ?_
    rintro e w' ⟨N, rfl, _, _, hb⟩
    exact ⟨⟨N, rfl⟩, hb⟩
theorem atoi_ok' (s : ByteArray) (n : Int) (hs : s.size ≤ 281474976710656) (w : World) (h : readNum s.data.toList = (n, true)) :
    Calls Tryd.prog 32 #[.string s] w fun e w' => e = .returned (.tuple #[.int .i64 n, .nilIface]) ∧ Below w.heap.size w w' := by
  have := atoi_ok s hs w (by rw [h])
  rwa [h] at this
theorem atoi_no' (s : ByteArray) (n : Int) (hs : s.size ≤ 281474976710656) (w : World) (hG_ : GW w) (h : readNum s.data.toList = (n, false)) :
    Calls Tryd.prog 32 #[.string s] w fun e w' => (∃ N, e = .returned (.tuple #[.int .i64 n, .iface 65 (.pointer (some ⟨N, 0, none⟩))])) ∧ Below w.heap.size w w' := by
  have := atoi_no s hs w hG_ (by rw [h])
  rwa [h] at this

def readCut (s : ByteArray) : List UInt8 × List UInt8 × Bool := Lib.cut s.data.toList [47]
theorem cut_len (s : List UInt8) : (Lib.cut s [47]).1.length ≤ s.length ∧ (Lib.cut s [47]).2.1.length ≤ s.length := by
  unfold Lib.cut
  split
  · exact ⟨by rw [List.length_take]; omega, by rw [List.length_drop]; omega⟩
  · exact ⟨Nat.le_refl _, Nat.zero_le _⟩
theorem cut_any (s : ByteArray) (hs : s.size ≤ 1000000000) (c d : ByteArray) (b : Bool) (h : readCut s = (c.data.toList, d.data.toList, b)) (w : World) (hG_ : GW w) :
    Calls Tryd.prog 31 #[.string s, .string ⟨#[47]⟩] w fun e w' => e = .returned (.tuple #[.string c, .string d, .bool b]) ∧ Below w.heap.size w w' := by
  obtain ⟨_, ⟨m, hm⟩, _, _⟩ := hG_
  refine (Tryd.strings_Cut s ⟨#[47]⟩ m w (by omega) hm).mono ?_
  rintro e w' ⟨rfl, n, rfl⟩
  refine ⟨?_, ⟨rfl, rfl, rfl, Nat.le_refl _, fun _ _ => rfl⟩⟩
  have h' : Lib.cut s.data.toList [47] = (c.data.toList, d.data.toList, b) := h
  show Ending.returned (.tuple #[.string ⟨(Lib.cut s.data.toList [47]).1.toArray⟩, .string ⟨(Lib.cut s.data.toList [47]).2.1.toArray⟩, .bool (Lib.cut s.data.toList [47]).2.2]) = _
  rw [h']
theorem cut_parts (s : ByteArray) (hs : s.size ≤ 1000000000) : ∃ (c d : ByteArray) (b : Bool), readCut s = (c.data.toList, d.data.toList, b) ∧ c.size ≤ 1000000000 ∧ d.size ≤ 1000000000 := by
  have h := cut_len s.data.toList
  have hl : s.data.toList.length = s.size := Array.length_toList
  refine ⟨⟨(readCut s).1.toArray⟩, ⟨(readCut s).2.1.toArray⟩, (readCut s).2.2, rfl, ?_, ?_⟩
  · show (readCut s).1.toArray.size ≤ _
    rw [List.size_toArray]; unfold readCut; omega
  · show (readCut s).2.1.toArray.size ≤ _
    rw [List.size_toArray]; unfold readCut; omega
end Go.Proofs.YtofolkbappinhaaDoor.M
