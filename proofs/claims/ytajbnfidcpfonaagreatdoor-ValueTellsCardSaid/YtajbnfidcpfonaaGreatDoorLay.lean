/- The layout of slices' elements. -/
import Derived.Test.YtajbnfidcpfonaaGreatDoorQ10
namespace Go.Proofs.YtajbnfidcpfonaaGreatDoor.M
open Go.Proofs.Qx
def lay : Nat → List CK
  | 5 => [.int .u8]
  | 23 => [.int .i64, .int .i64, .int .i64, .int .i64]
  | _ => []
end Go.Proofs.YtajbnfidcpfonaaGreatDoor.M
