/- The reference writes and reads right values as the program writes them (4137 of them, by the kernel). -/
import Derived.Test.YtajbnfidcpfonaaGreatDoorPureRefTripA
import Derived.Test.YtajbnfidcpfonaaGreatDoorPureRefTripB
import Derived.Test.YtajbnfidcpfonaaGreatDoorPureRefTripC
set_option linter.unusedVariables false
set_option linter.unusedSimpArgs false
namespace Go.Proofs.YtajbnfidcpfonaaGreatDoor.Pure
open Go.RowKit Go.Proofs.Qx Go.Proofs.YtajbnfidcpfonaaGreatDoor.M Go.Proofs.YtajbnfidcpfonaaGreatDoorW.PrintWords Go.Proofs.YtajbnfidcpfonaaGreatDoorW.PrintLast Go.Proofs.YtajbnfidcpfonaaGreatDoorW.PrintMore
set_option maxRecDepth 100000

theorem trip4_ok {b d n m : Int} (h : VR b d n m) : trip4 b d n m = true := by
  obtain ⟨b0, b1, d0, d1, hn⟩ := h
  have hb : b = 0 ∨ b = 1 ∨ b = 2 ∨ b = 3 ∨ b = 4 ∨ b = 5 ∨ b = 6 := by omega
  have hd : d = 0 ∨ d = 1 ∨ d = 2 := by omega
  have hm := nms_mem hn
  rcases hb with rfl | rfl | rfl | rfl | rfl | rfl | rfl <;> rcases hd with rfl | rfl | rfl
  · exact q0_0 _ hm
  · exact q0_1 _ hm
  · exact q0_2 _ hm
  · exact q1_0 _ hm
  · exact q1_1 _ hm
  · exact q1_2 _ hm
  · exact q2_0 _ hm
  · exact q2_1 _ hm
  · exact q2_2 _ hm
  · exact q3_0 _ hm
  · exact q3_1 _ hm
  · exact q3_2 _ hm
  · exact q4_0 _ hm
  · exact q4_1 _ hm
  · exact q4_2 _ hm
  · exact q5_0 _ hm
  · exact q5_1 _ hm
  · exact q5_2 _ hm
  · exact q6_0 _ hm
  · exact q6_1 _ hm
  · exact q6_2 _ hm

end Go.Proofs.YtajbnfidcpfonaaGreatDoor.Pure
