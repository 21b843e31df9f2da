/- The reference writes and reads right values as the program writes them (all values of some bases, by the kernel). -/
import Derived.Test.YtajbnfidcpfonaaGreatDoorPureRefTrip0
set_option linter.unusedVariables false
set_option linter.unusedSimpArgs false
namespace Go.Proofs.YtajbnfidcpfonaaGreatDoor.Pure
open Go.RowKit Go.Proofs.Qx Go.Proofs.YtajbnfidcpfonaaGreatDoor.M Go.Proofs.YtajbnfidcpfonaaGreatDoorW.PrintWords Go.Proofs.YtajbnfidcpfonaaGreatDoorW.PrintLast Go.Proofs.YtajbnfidcpfonaaGreatDoorW.PrintMore
set_option maxRecDepth 100000

set_option maxRecDepth 100000 in
theorem q0_0 : ∀ p ∈ nms, trip4 0 0 p.1 p.2 = true := by decide +kernel
set_option maxRecDepth 100000 in
theorem q0_1 : ∀ p ∈ nms, trip4 0 1 p.1 p.2 = true := by decide +kernel
set_option maxRecDepth 100000 in
theorem q0_2 : ∀ p ∈ nms, trip4 0 2 p.1 p.2 = true := by decide +kernel
set_option maxRecDepth 100000 in
theorem q1_0 : ∀ p ∈ nms, trip4 1 0 p.1 p.2 = true := by decide +kernel
set_option maxRecDepth 100000 in
theorem q1_1 : ∀ p ∈ nms, trip4 1 1 p.1 p.2 = true := by decide +kernel
set_option maxRecDepth 100000 in
theorem q1_2 : ∀ p ∈ nms, trip4 1 2 p.1 p.2 = true := by decide +kernel
set_option maxRecDepth 100000 in
theorem q2_0 : ∀ p ∈ nms, trip4 2 0 p.1 p.2 = true := by decide +kernel
set_option maxRecDepth 100000 in
theorem q2_1 : ∀ p ∈ nms, trip4 2 1 p.1 p.2 = true := by decide +kernel
set_option maxRecDepth 100000 in
theorem q2_2 : ∀ p ∈ nms, trip4 2 2 p.1 p.2 = true := by decide +kernel

end Go.Proofs.YtajbnfidcpfonaaGreatDoor.Pure
