/- Every right value is read back out of its text (4137 of them, by the kernel). -/
import Derived.Test.YtajbnfidcpfonaaGreatDoorM5
import Derived.Test.YtajbnfidcpfonaaGreatDoorM6
import Derived.Test.YtajbnfidcpfonaaGreatDoorPureLength
set_option linter.unusedVariables false
set_option linter.unusedSimpArgs false
namespace Go.Proofs.YtajbnfidcpfonaaGreatDoor.Pure
open Go.RowKit Go.Proofs.YtajbnfidcpfonaaGreatDoor.M Go.Proofs.YtajbnfidcpfonaaGreatDoorW.PrintWords Go.Proofs.YtajbnfidcpfonaaGreatDoorW.PrintLast Go.Proofs.YtajbnfidcpfonaaGreatDoorW.PrintMore

theorem examples_k : ∀ n, partitalaw04_examples.f (200 + n) = some true
  | 0 => examples_ok
  | n + 1 => partitalaw04_examples.mono _ _ (examples_k n)
def tripOk (b d n m : Int) : Bool := match value_Text.f 10 b d n m with
  | some (t, e) => decide (e = 0) && decide (value_Read.f 60 t = some (b, d, n, m, 0))
  | none => false
set_option maxRecDepth 100000 in
theorem trip0_0 : ∀ p ∈ nms, tripOk 0 0 p.1 p.2 = true := by decide +kernel
set_option maxRecDepth 100000 in
theorem trip0_1 : ∀ p ∈ nms, tripOk 0 1 p.1 p.2 = true := by decide +kernel
set_option maxRecDepth 100000 in
theorem trip0_2 : ∀ p ∈ nms, tripOk 0 2 p.1 p.2 = true := by decide +kernel
set_option maxRecDepth 100000 in
theorem trip1_0 : ∀ p ∈ nms, tripOk 1 0 p.1 p.2 = true := by decide +kernel
set_option maxRecDepth 100000 in
theorem trip1_1 : ∀ p ∈ nms, tripOk 1 1 p.1 p.2 = true := by decide +kernel
set_option maxRecDepth 100000 in
theorem trip1_2 : ∀ p ∈ nms, tripOk 1 2 p.1 p.2 = true := by decide +kernel
set_option maxRecDepth 100000 in
theorem trip2_0 : ∀ p ∈ nms, tripOk 2 0 p.1 p.2 = true := by decide +kernel
set_option maxRecDepth 100000 in
theorem trip2_1 : ∀ p ∈ nms, tripOk 2 1 p.1 p.2 = true := by decide +kernel
set_option maxRecDepth 100000 in
theorem trip2_2 : ∀ p ∈ nms, tripOk 2 2 p.1 p.2 = true := by decide +kernel
set_option maxRecDepth 100000 in
theorem trip3_0 : ∀ p ∈ nms, tripOk 3 0 p.1 p.2 = true := by decide +kernel
set_option maxRecDepth 100000 in
theorem trip3_1 : ∀ p ∈ nms, tripOk 3 1 p.1 p.2 = true := by decide +kernel
set_option maxRecDepth 100000 in
theorem trip3_2 : ∀ p ∈ nms, tripOk 3 2 p.1 p.2 = true := by decide +kernel
set_option maxRecDepth 100000 in
theorem trip4_0 : ∀ p ∈ nms, tripOk 4 0 p.1 p.2 = true := by decide +kernel
set_option maxRecDepth 100000 in
theorem trip4_1 : ∀ p ∈ nms, tripOk 4 1 p.1 p.2 = true := by decide +kernel
set_option maxRecDepth 100000 in
theorem trip4_2 : ∀ p ∈ nms, tripOk 4 2 p.1 p.2 = true := by decide +kernel
set_option maxRecDepth 100000 in
theorem trip5_0 : ∀ p ∈ nms, tripOk 5 0 p.1 p.2 = true := by decide +kernel
set_option maxRecDepth 100000 in
theorem trip5_1 : ∀ p ∈ nms, tripOk 5 1 p.1 p.2 = true := by decide +kernel
set_option maxRecDepth 100000 in
theorem trip5_2 : ∀ p ∈ nms, tripOk 5 2 p.1 p.2 = true := by decide +kernel
set_option maxRecDepth 100000 in
theorem trip6_0 : ∀ p ∈ nms, tripOk 6 0 p.1 p.2 = true := by decide +kernel
set_option maxRecDepth 100000 in
theorem trip6_1 : ∀ p ∈ nms, tripOk 6 1 p.1 p.2 = true := by decide +kernel
set_option maxRecDepth 100000 in
theorem trip6_2 : ∀ p ∈ nms, tripOk 6 2 p.1 p.2 = true := by decide +kernel
theorem trip {b d n m : Int} (h : VR b d n m) : tripOk b d n m = true := by
  obtain ⟨b0, b1, d0, d1, hn⟩ := h
  have hb : b = 0 ∨ b = 1 ∨ b = 2 ∨ b = 3 ∨ b = 4 ∨ b = 5 ∨ b = 6 := by omega
  have hd : d = 0 ∨ d = 1 ∨ d = 2 := by omega
  have hm := nms_mem hn
  rcases hb with rfl | rfl | rfl | rfl | rfl | rfl | rfl <;> rcases hd with rfl | rfl | rfl
  · exact trip0_0 _ hm
  · exact trip0_1 _ hm
  · exact trip0_2 _ hm
  · exact trip1_0 _ hm
  · exact trip1_1 _ hm
  · exact trip1_2 _ hm
  · exact trip2_0 _ hm
  · exact trip2_1 _ hm
  · exact trip2_2 _ hm
  · exact trip3_0 _ hm
  · exact trip3_1 _ hm
  · exact trip3_2 _ hm
  · exact trip4_0 _ hm
  · exact trip4_1 _ hm
  · exact trip4_2 _ hm
  · exact trip5_0 _ hm
  · exact trip5_1 _ hm
  · exact trip5_2 _ hm
  · exact trip6_0 _ hm
  · exact trip6_1 _ hm
  · exact trip6_2 _ hm
theorem Text_trip {b d n m : Int} (h : VR b d n m) : ∃ t, value_Text.f 10 b d n m = some (t, 0) ∧ value_Read.f 60 t = some (b, d, n, m, 0) := by
  have := trip h
  unfold tripOk at this
  split at this
  · rename_i t e he
    simp only [Bool.and_eq_true, decide_eq_true_eq] at this
    obtain ⟨rfl, hr⟩ := this
    exact ⟨t, he, hr⟩
  · cases this
theorem Text_no {k : Nat} (hk : 1 ≤ k) {b d n m : Int} (h : ¬ VR b d n m) : value_Text.f k b d n m = some (⟨#[]⟩, 40) := by
  unfold value_Text.f
  rw [vright_eq hk, Option.bind_some, if_neg (by rw [decide_eq_false h]; decide)]
theorem text_at {k : Nat} (hk : 10 ≤ k) {b d n m : Int} {r : ByteArray × Int} (h : value_Text.f 10 b d n m = some r) : value_Text.f k b d n m = some r := at_rounds (value_Text.mono _ _ _ _) hk h
theorem read_at {k : Nat} (hk : 60 ≤ k) {s : ByteArray} {r : Int × Int × Int × Int × Int} (h : value_Read.f 60 s = some r) : value_Read.f k s = some r := at_rounds (value_Read.mono _) hk h

end Go.Proofs.YtajbnfidcpfonaaGreatDoor.Pure
