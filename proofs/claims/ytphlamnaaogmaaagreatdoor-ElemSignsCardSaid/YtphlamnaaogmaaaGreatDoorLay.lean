import Derived.Test.YtphlamnaaogmaaaGreatDoorQ10
namespace Go.Proofs.YtphlamnaaogmaaaGreatDoor.M
open Go.Proofs.Qx
def lay : Nat → List CK
  | 3 => [.int .i64]
  | 5 => [.int .u8]
  | 9 => [.str]
  | 27 => [.str, .seq 52, .str, .seq 27]
  | 52 => [.str, .str]
  | 56 => [.str, .seq 84, .str, .int .i64]
  | 84 => [.str, .str]
  | _ => []
end Go.Proofs.YtphlamnaaogmaaaGreatDoor.M
