/- The reference writes and reads a value as the program does: said as a test. -/
import Derived.Test.YtajbnfidcpfonaaGreatDoorZ2
import Derived.Test.YtajbnfidcpfonaaGreatDoorPureTrip
set_option linter.unusedVariables false
set_option linter.unusedSimpArgs false
namespace Go.Proofs.YtajbnfidcpfonaaGreatDoor.Pure
open Go.RowKit Go.Proofs.Qx Go.Proofs.YtajbnfidcpfonaaGreatDoor.M Go.Proofs.YtajbnfidcpfonaaGreatDoorW.PrintWords Go.Proofs.YtajbnfidcpfonaaGreatDoorW.PrintLast Go.Proofs.YtajbnfidcpfonaaGreatDoorW.PrintMore
set_option maxRecDepth 100000

def trip4 (b d n m : Int) : Bool := match value_Text.f 10 b d n m with
  | some (t, e) => decide (r4_Text.f 50000 b d n m = some (t, e)) && decide (r4_Read.f 50000 t = some (b, d, n, m, 0))
  | none => false

end Go.Proofs.YtajbnfidcpfonaaGreatDoor.Pure
