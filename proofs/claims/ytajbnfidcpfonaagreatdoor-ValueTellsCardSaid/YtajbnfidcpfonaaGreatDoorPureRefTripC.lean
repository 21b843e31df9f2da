/- The reference writes and reads right values as the program writes them (all values of some bases, by the kernel). -/
import Derived.Test.YtajbnfidcpfonaaGreatDoorPureRefTrip0
set_option linter.unusedVariables false
set_option linter.unusedSimpArgs false
namespace Go.Proofs.YtajbnfidcpfonaaGreatDoor.Pure
open Go.RowKit Go.Proofs.Qx Go.Proofs.YtajbnfidcpfonaaGreatDoor.M Go.Proofs.YtajbnfidcpfonaaGreatDoorW.PrintWords Go.Proofs.YtajbnfidcpfonaaGreatDoorW.PrintLast Go.Proofs.YtajbnfidcpfonaaGreatDoorW.PrintMore
set_option maxRecDepth 100000

set_option maxRecDepth 100000 in
theorem q5_0 : ∀ p ∈ nms, trip4 5 0 p.1 p.2 = true := by decide +kernel
set_option maxRecDepth 100000 in
theorem q5_1 : ∀ p ∈ nms, trip4 5 1 p.1 p.2 = true := by decide +kernel
set_option maxRecDepth 100000 in
theorem q5_2 : ∀ p ∈ nms, trip4 5 2 p.1 p.2 = true := by decide +kernel
set_option maxRecDepth 100000 in
theorem q6_0 : ∀ p ∈ nms, trip4 6 0 p.1 p.2 = true := by decide +kernel
set_option maxRecDepth 100000 in
theorem q6_1 : ∀ p ∈ nms, trip4 6 1 p.1 p.2 = true := by decide +kernel
set_option maxRecDepth 100000 in
theorem q6_2 : ∀ p ∈ nms, trip4 6 2 p.1 p.2 = true := by decide +kernel

end Go.Proofs.YtajbnfidcpfonaaGreatDoor.Pure
