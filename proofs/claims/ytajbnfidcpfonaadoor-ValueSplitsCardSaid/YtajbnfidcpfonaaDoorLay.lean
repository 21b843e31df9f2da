/- The layout of slices' elements. -/
import Derived.Test.YtajbnfidcpfonaaDoorQ10
namespace Go.Proofs.YtajbnfidcpfonaaDoor.M
open Go.Proofs.Qx
def lay : Nat → List CK
  | 5 => [.int .u8]
  | 23 => [.int .i64, .int .i64, .int .i64, .int .i64]
  | 47 => [.int .i64, .int .i64]
  | _ => []
end Go.Proofs.YtajbnfidcpfonaaDoor.M
