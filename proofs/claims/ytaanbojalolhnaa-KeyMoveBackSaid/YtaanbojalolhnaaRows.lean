/-
  No cell of these rows narrows 'for every input' (looked for: loops, veiled, ifaces, maps, wideKeys, modest, calm, conditions, laid).
  DERIVED. THE GIVEN ROWS OF THIS SEAT. 10 by the template 'for every input the law returns true; each argument reads behind the call as it read before'; 0 by the template 'total and deterministic' (their statements: YtaanbojalolhnaaTotals.lean).
  GIVEN WITH THE SEED: the statements are not yours to turn. If you find one false, say at which input.
  Laid BY PROGRAM, IN A SANDBOX (cutbox-rows.mjs): the forced cells as the released guide's own fill.sh prints them over the translation be935beae4c2024b… (all of the seat's roots in one cut). By AI agents, Wed Nov 11 2026. No macro, syntax, notation, axiom, sorry.
-/
import Derived.Test.YtaanbojalolhnaaChecked
import GoSem.Claim
import GoSem.ClaimJoined
import GoSem.ClaimMapViews
import Derived.JoinedTies
import Derived.KernelRfl
namespace Go.Proofs.Ytaanbojalolhnaa
/- THE CELL 'sum', in the pinned program and in every row, IS THE sha256 OF THE DUMP (.gsa) THAT YtaanbojalolhnaaProg.lean LOADS. Nothing in Lean hashes anything: it is a label: what it is worth is what the hold of that sum in a sandbox is worth. -/
noncomputable def Try.pinned : Pinned := { name := "ytaanbojalolhnaa", sum := "be935beae4c2024bc825c695624aa771b789adef7a56fffd585afe54dd808d70", checked := Try.checked }
namespace Rows
def none {H : Type} : Left H := { results := [], args := [] }

/-- 'partitalaw03.KeyRights': WHATEVER THE INPUT: true; the input reads as it did. -/
def keyRightsSpec : ChangeSpec := { name := "keyRights", fn := fun _ => fun
  | [d] => { results := [.lit (.bool true)], args := [d] }
  | _ => none }
def keyRightsRow : OpenClaim := { program := "ytaanbojalolhnaa", sum := "be935beae4c2024bc825c695624aa771b789adef7a56fffd585afe54dd808d70", func := "partita/partitalaw03.KeyRights", spec := "keyRights", inPlace := ["internal/abi.NoEscape", "internal/bytealg.MakeNoZero"], unfollowed := true, recurses := true, apart := false }
def KeyRightsSaid : Prop := keyRightsRow.holds Try.pinned (OpenSpec.ofChange keyRightsSpec)

/-- ITS FALSE NEIGHBOUR: 'it returns false'. Refute it at one input. -/
def keyRightsWrong : ChangeSpec := { name := "keyRights", fn := fun _ => fun
  | [d] => { results := [.lit (.bool false)], args := [d] }
  | _ => none }
def KeyRightsWrongFalsely : Prop := keyRightsRow.holds Try.pinned (OpenSpec.ofChange keyRightsWrong)

/-- 'partitalaw03.KeyAlters': WHATEVER THE INPUT: true; the input reads as it did. -/
def keyAltersSpec : ChangeSpec := { name := "keyAlters", fn := fun _ => fun
  | [d1, d2] => { results := [.lit (.bool true)], args := [d1, d2] }
  | _ => none }
def keyAltersRow : OpenClaim := { program := "ytaanbojalolhnaa", sum := "be935beae4c2024bc825c695624aa771b789adef7a56fffd585afe54dd808d70", func := "partita/partitalaw03.KeyAlters", spec := "keyAlters", inPlace := ["internal/abi.NoEscape", "internal/bytealg.MakeNoZero"], unfollowed := true, recurses := true, apart := false }
def KeyAltersSaid : Prop := keyAltersRow.holds Try.pinned (OpenSpec.ofChange keyAltersSpec)

/-- ITS FALSE NEIGHBOUR: 'it returns false'. Refute it at one input. -/
def keyAltersWrong : ChangeSpec := { name := "keyAlters", fn := fun _ => fun
  | [d1, d2] => { results := [.lit (.bool false)], args := [d1, d2] }
  | _ => none }
def KeyAltersWrongFalsely : Prop := keyAltersRow.holds Try.pinned (OpenSpec.ofChange keyAltersWrong)

/-- 'partitalaw03.KeyScales': WHATEVER THE INPUT: true; the input reads as it did. -/
def keyScalesSpec : ChangeSpec := { name := "keyScales", fn := fun _ => fun
  | [d] => { results := [.lit (.bool true)], args := [d] }
  | _ => none }
def keyScalesRow : OpenClaim := { program := "ytaanbojalolhnaa", sum := "be935beae4c2024bc825c695624aa771b789adef7a56fffd585afe54dd808d70", func := "partita/partitalaw03.KeyScales", spec := "keyScales", inPlace := ["internal/abi.NoEscape", "internal/bytealg.MakeNoZero"], unfollowed := true, recurses := true, apart := false }
def KeyScalesSaid : Prop := keyScalesRow.holds Try.pinned (OpenSpec.ofChange keyScalesSpec)

/-- ITS FALSE NEIGHBOUR: 'it returns false'. Refute it at one input. -/
def keyScalesWrong : ChangeSpec := { name := "keyScales", fn := fun _ => fun
  | [d] => { results := [.lit (.bool false)], args := [d] }
  | _ => none }
def KeyScalesWrongFalsely : Prop := keyScalesRow.holds Try.pinned (OpenSpec.ofChange keyScalesWrong)

/-- 'partitalaw03.KeyMoves': WHATEVER THE INPUT: true; the input reads as it did. -/
def keyMovesSpec : ChangeSpec := { name := "keyMoves", fn := fun _ => fun
  | [d1, d2] => { results := [.lit (.bool true)], args := [d1, d2] }
  | _ => none }
def keyMovesRow : OpenClaim := { program := "ytaanbojalolhnaa", sum := "be935beae4c2024bc825c695624aa771b789adef7a56fffd585afe54dd808d70", func := "partita/partitalaw03.KeyMoves", spec := "keyMoves", inPlace := ["internal/abi.NoEscape", "internal/bytealg.MakeNoZero"], unfollowed := true, recurses := true, apart := false }
def KeyMovesSaid : Prop := keyMovesRow.holds Try.pinned (OpenSpec.ofChange keyMovesSpec)

/-- ITS FALSE NEIGHBOUR: 'it returns false'. Refute it at one input. -/
def keyMovesWrong : ChangeSpec := { name := "keyMoves", fn := fun _ => fun
  | [d1, d2] => { results := [.lit (.bool false)], args := [d1, d2] }
  | _ => none }
def KeyMovesWrongFalsely : Prop := keyMovesRow.holds Try.pinned (OpenSpec.ofChange keyMovesWrong)

/-- 'partitalaw03.KeyMoveBack': WHATEVER THE INPUT: true; the input reads as it did. -/
def keyMoveBackSpec : ChangeSpec := { name := "keyMoveBack", fn := fun _ => fun
  | [d1, d2, d3] => { results := [.lit (.bool true)], args := [d1, d2, d3] }
  | _ => none }
def keyMoveBackRow : OpenClaim := { program := "ytaanbojalolhnaa", sum := "be935beae4c2024bc825c695624aa771b789adef7a56fffd585afe54dd808d70", func := "partita/partitalaw03.KeyMoveBack", spec := "keyMoveBack", inPlace := ["internal/abi.NoEscape", "internal/bytealg.MakeNoZero"], unfollowed := true, recurses := true, apart := false }
def KeyMoveBackSaid : Prop := keyMoveBackRow.holds Try.pinned (OpenSpec.ofChange keyMoveBackSpec)

/-- ITS FALSE NEIGHBOUR: 'it returns false'. Refute it at one input. -/
def keyMoveBackWrong : ChangeSpec := { name := "keyMoveBack", fn := fun _ => fun
  | [d1, d2, d3] => { results := [.lit (.bool false)], args := [d1, d2, d3] }
  | _ => none }
def KeyMoveBackWrongFalsely : Prop := keyMoveBackRow.holds Try.pinned (OpenSpec.ofChange keyMoveBackWrong)

/-- 'partitalaw03.KeySignature': WHATEVER THE INPUT: true; the input reads as it did. -/
def keySignatureSpec : ChangeSpec := { name := "keySignature", fn := fun _ => fun
  | [d] => { results := [.lit (.bool true)], args := [d] }
  | _ => none }
def keySignatureRow : OpenClaim := { program := "ytaanbojalolhnaa", sum := "be935beae4c2024bc825c695624aa771b789adef7a56fffd585afe54dd808d70", func := "partita/partitalaw03.KeySignature", spec := "keySignature", inPlace := ["internal/abi.NoEscape", "internal/bytealg.MakeNoZero"], unfollowed := true, recurses := true, apart := false }
def KeySignatureSaid : Prop := keySignatureRow.holds Try.pinned (OpenSpec.ofChange keySignatureSpec)

/-- ITS FALSE NEIGHBOUR: 'it returns false'. Refute it at one input. -/
def keySignatureWrong : ChangeSpec := { name := "keySignature", fn := fun _ => fun
  | [d] => { results := [.lit (.bool false)], args := [d] }
  | _ => none }
def KeySignatureWrongFalsely : Prop := keySignatureRow.holds Try.pinned (OpenSpec.ofChange keySignatureWrong)

/-- 'partitalaw03.KeyRelative': WHATEVER THE INPUT: true; the input reads as it did. -/
def keyRelativeSpec : ChangeSpec := { name := "keyRelative", fn := fun _ => fun
  | [d1, d2] => { results := [.lit (.bool true)], args := [d1, d2] }
  | _ => none }
def keyRelativeRow : OpenClaim := { program := "ytaanbojalolhnaa", sum := "be935beae4c2024bc825c695624aa771b789adef7a56fffd585afe54dd808d70", func := "partita/partitalaw03.KeyRelative", spec := "keyRelative", inPlace := ["internal/abi.NoEscape", "internal/bytealg.MakeNoZero"], unfollowed := true, recurses := true, apart := false }
def KeyRelativeSaid : Prop := keyRelativeRow.holds Try.pinned (OpenSpec.ofChange keyRelativeSpec)

/-- ITS FALSE NEIGHBOUR: 'it returns false'. Refute it at one input. -/
def keyRelativeWrong : ChangeSpec := { name := "keyRelative", fn := fun _ => fun
  | [d1, d2] => { results := [.lit (.bool false)], args := [d1, d2] }
  | _ => none }
def KeyRelativeWrongFalsely : Prop := keyRelativeRow.holds Try.pinned (OpenSpec.ofChange keyRelativeWrong)

/-- 'partitalaw03.KeyFifth': WHATEVER THE INPUT: true; the input reads as it did. -/
def keyFifthSpec : ChangeSpec := { name := "keyFifth", fn := fun _ => fun
  | [d] => { results := [.lit (.bool true)], args := [d] }
  | _ => none }
def keyFifthRow : OpenClaim := { program := "ytaanbojalolhnaa", sum := "be935beae4c2024bc825c695624aa771b789adef7a56fffd585afe54dd808d70", func := "partita/partitalaw03.KeyFifth", spec := "keyFifth", inPlace := ["internal/abi.NoEscape", "internal/bytealg.MakeNoZero"], unfollowed := true, recurses := true, apart := false }
def KeyFifthSaid : Prop := keyFifthRow.holds Try.pinned (OpenSpec.ofChange keyFifthSpec)

/-- ITS FALSE NEIGHBOUR: 'it returns false'. Refute it at one input. -/
def keyFifthWrong : ChangeSpec := { name := "keyFifth", fn := fun _ => fun
  | [d] => { results := [.lit (.bool false)], args := [d] }
  | _ => none }
def KeyFifthWrongFalsely : Prop := keyFifthRow.holds Try.pinned (OpenSpec.ofChange keyFifthWrong)

/-- 'partitalaw03.KeyReads': WHATEVER THE INPUT: true; the input reads as it did. -/
def keyReadsSpec : ChangeSpec := { name := "keyReads", fn := fun _ => fun
  | [d] => { results := [.lit (.bool true)], args := [d] }
  | _ => none }
def keyReadsRow : OpenClaim := { program := "ytaanbojalolhnaa", sum := "be935beae4c2024bc825c695624aa771b789adef7a56fffd585afe54dd808d70", func := "partita/partitalaw03.KeyReads", spec := "keyReads", inPlace := ["internal/abi.NoEscape", "internal/bytealg.MakeNoZero"], unfollowed := true, recurses := true, apart := false }
def KeyReadsSaid : Prop := keyReadsRow.holds Try.pinned (OpenSpec.ofChange keyReadsSpec)

/-- ITS FALSE NEIGHBOUR: 'it returns false'. Refute it at one input. -/
def keyReadsWrong : ChangeSpec := { name := "keyReads", fn := fun _ => fun
  | [d] => { results := [.lit (.bool false)], args := [d] }
  | _ => none }
def KeyReadsWrongFalsely : Prop := keyReadsRow.holds Try.pinned (OpenSpec.ofChange keyReadsWrong)

/-- 'partitalaw03.KeyBack': WHATEVER THE INPUT: true; the input reads as it did. -/
def keyBackSpec : ChangeSpec := { name := "keyBack", fn := fun _ => fun
  | [d] => { results := [.lit (.bool true)], args := [d] }
  | _ => none }
def keyBackRow : OpenClaim := { program := "ytaanbojalolhnaa", sum := "be935beae4c2024bc825c695624aa771b789adef7a56fffd585afe54dd808d70", func := "partita/partitalaw03.KeyBack", spec := "keyBack", inPlace := ["internal/abi.NoEscape", "internal/bytealg.MakeNoZero"], unfollowed := true, recurses := true, apart := false }
def KeyBackSaid : Prop := keyBackRow.holds Try.pinned (OpenSpec.ofChange keyBackSpec)

/-- ITS FALSE NEIGHBOUR: 'it returns false'. Refute it at one input. -/
def keyBackWrong : ChangeSpec := { name := "keyBack", fn := fun _ => fun
  | [d] => { results := [.lit (.bool false)], args := [d] }
  | _ => none }
def KeyBackWrongFalsely : Prop := keyBackRow.holds Try.pinned (OpenSpec.ofChange keyBackWrong)

/- THE SECOND FORM. 'bulk': how many values and letters a reading holds, each counted each time it is reached (what is shared counts as often as it is met; a slice's spare places count too). A statement '..UptoSaid' is the law's where the arguments, and the package variables that the reading takes, are together of bulk at most 1048576: NARROWER than '..Said'. Prove '..Said' where nothing that the law and all that it calls make is longer than what came in: it says more and counts as full. Else prove '..UptoSaid'. A law counts once. -/
mutual
def uptoBulk {H : Type} : DataW H → Nat
  | .lit (.string bytes) => bytes.length + 1
  | .lit _ => 1
  | .nil => 1
  | .ptr d => uptoBulk d + 1
  | .slice elems spare => uptoBulkAll elems + uptoBulkAll spare + 1
  | .agg parts => uptoBulkAll parts + 1
  | .iface _ d => uptoBulk d + 1
  | .map entries => uptoBulkEntries entries + 1
  | .held _ => 1
def uptoBulkAll {H : Type} : List (DataW H) → Nat
  | [] => 0
  | d :: r => uptoBulk d + uptoBulkAll r
def uptoBulkEntries {H : Type} : List (Lit × DataW H) → Nat
  | [] => 0
  | x :: r => uptoBulkEntry x + uptoBulkEntries r
def uptoBulkEntry {H : Type} : Lit × DataW H → Nat
  | (.string bytes, d) => bytes.length + uptoBulk d + 1
  | (_, d) => uptoBulk d + 1
 end
def uptoSmall : (H : Type) → List (DataW H) → Bool := fun _ ds => decide (uptoBulkAll ds ≤ 1048576)
def OpenSpec.upto (s : _root_.Go.ChangeSpec) : _root_.Go.OpenSpec := { _root_.Go.OpenSpec.ofChange s with cond := some uptoSmall }

/-- 'partitalaw03.KeyRights', WHERE WHAT IT READS IS OF BULK AT MOST 1048576: true; the input reads as it did. -/
def keyRightsUptoRow : OpenClaim := { program := "ytaanbojalolhnaa", sum := "be935beae4c2024bc825c695624aa771b789adef7a56fffd585afe54dd808d70", func := "partita/partitalaw03.KeyRights", spec := "keyRights", inPlace := ["internal/abi.NoEscape", "internal/bytealg.MakeNoZero"], unfollowed := true, recurses := true, apart := false, narrowed := true }
def KeyRightsUptoSaid : Prop := keyRightsUptoRow.holds Try.pinned (OpenSpec.upto keyRightsSpec)

/-- 'partitalaw03.KeyAlters', WHERE WHAT IT READS IS OF BULK AT MOST 1048576: true; the input reads as it did. -/
def keyAltersUptoRow : OpenClaim := { program := "ytaanbojalolhnaa", sum := "be935beae4c2024bc825c695624aa771b789adef7a56fffd585afe54dd808d70", func := "partita/partitalaw03.KeyAlters", spec := "keyAlters", inPlace := ["internal/abi.NoEscape", "internal/bytealg.MakeNoZero"], unfollowed := true, recurses := true, apart := false, narrowed := true }
def KeyAltersUptoSaid : Prop := keyAltersUptoRow.holds Try.pinned (OpenSpec.upto keyAltersSpec)

/-- 'partitalaw03.KeyScales', WHERE WHAT IT READS IS OF BULK AT MOST 1048576: true; the input reads as it did. -/
def keyScalesUptoRow : OpenClaim := { program := "ytaanbojalolhnaa", sum := "be935beae4c2024bc825c695624aa771b789adef7a56fffd585afe54dd808d70", func := "partita/partitalaw03.KeyScales", spec := "keyScales", inPlace := ["internal/abi.NoEscape", "internal/bytealg.MakeNoZero"], unfollowed := true, recurses := true, apart := false, narrowed := true }
def KeyScalesUptoSaid : Prop := keyScalesUptoRow.holds Try.pinned (OpenSpec.upto keyScalesSpec)

/-- 'partitalaw03.KeyMoves', WHERE WHAT IT READS IS OF BULK AT MOST 1048576: true; the input reads as it did. -/
def keyMovesUptoRow : OpenClaim := { program := "ytaanbojalolhnaa", sum := "be935beae4c2024bc825c695624aa771b789adef7a56fffd585afe54dd808d70", func := "partita/partitalaw03.KeyMoves", spec := "keyMoves", inPlace := ["internal/abi.NoEscape", "internal/bytealg.MakeNoZero"], unfollowed := true, recurses := true, apart := false, narrowed := true }
def KeyMovesUptoSaid : Prop := keyMovesUptoRow.holds Try.pinned (OpenSpec.upto keyMovesSpec)

/-- 'partitalaw03.KeyMoveBack', WHERE WHAT IT READS IS OF BULK AT MOST 1048576: true; the input reads as it did. -/
def keyMoveBackUptoRow : OpenClaim := { program := "ytaanbojalolhnaa", sum := "be935beae4c2024bc825c695624aa771b789adef7a56fffd585afe54dd808d70", func := "partita/partitalaw03.KeyMoveBack", spec := "keyMoveBack", inPlace := ["internal/abi.NoEscape", "internal/bytealg.MakeNoZero"], unfollowed := true, recurses := true, apart := false, narrowed := true }
def KeyMoveBackUptoSaid : Prop := keyMoveBackUptoRow.holds Try.pinned (OpenSpec.upto keyMoveBackSpec)

/-- 'partitalaw03.KeySignature', WHERE WHAT IT READS IS OF BULK AT MOST 1048576: true; the input reads as it did. -/
def keySignatureUptoRow : OpenClaim := { program := "ytaanbojalolhnaa", sum := "be935beae4c2024bc825c695624aa771b789adef7a56fffd585afe54dd808d70", func := "partita/partitalaw03.KeySignature", spec := "keySignature", inPlace := ["internal/abi.NoEscape", "internal/bytealg.MakeNoZero"], unfollowed := true, recurses := true, apart := false, narrowed := true }
def KeySignatureUptoSaid : Prop := keySignatureUptoRow.holds Try.pinned (OpenSpec.upto keySignatureSpec)

/-- 'partitalaw03.KeyRelative', WHERE WHAT IT READS IS OF BULK AT MOST 1048576: true; the input reads as it did. -/
def keyRelativeUptoRow : OpenClaim := { program := "ytaanbojalolhnaa", sum := "be935beae4c2024bc825c695624aa771b789adef7a56fffd585afe54dd808d70", func := "partita/partitalaw03.KeyRelative", spec := "keyRelative", inPlace := ["internal/abi.NoEscape", "internal/bytealg.MakeNoZero"], unfollowed := true, recurses := true, apart := false, narrowed := true }
def KeyRelativeUptoSaid : Prop := keyRelativeUptoRow.holds Try.pinned (OpenSpec.upto keyRelativeSpec)

/-- 'partitalaw03.KeyFifth', WHERE WHAT IT READS IS OF BULK AT MOST 1048576: true; the input reads as it did. -/
def keyFifthUptoRow : OpenClaim := { program := "ytaanbojalolhnaa", sum := "be935beae4c2024bc825c695624aa771b789adef7a56fffd585afe54dd808d70", func := "partita/partitalaw03.KeyFifth", spec := "keyFifth", inPlace := ["internal/abi.NoEscape", "internal/bytealg.MakeNoZero"], unfollowed := true, recurses := true, apart := false, narrowed := true }
def KeyFifthUptoSaid : Prop := keyFifthUptoRow.holds Try.pinned (OpenSpec.upto keyFifthSpec)

/-- 'partitalaw03.KeyReads', WHERE WHAT IT READS IS OF BULK AT MOST 1048576: true; the input reads as it did. -/
def keyReadsUptoRow : OpenClaim := { program := "ytaanbojalolhnaa", sum := "be935beae4c2024bc825c695624aa771b789adef7a56fffd585afe54dd808d70", func := "partita/partitalaw03.KeyReads", spec := "keyReads", inPlace := ["internal/abi.NoEscape", "internal/bytealg.MakeNoZero"], unfollowed := true, recurses := true, apart := false, narrowed := true }
def KeyReadsUptoSaid : Prop := keyReadsUptoRow.holds Try.pinned (OpenSpec.upto keyReadsSpec)

/-- 'partitalaw03.KeyBack', WHERE WHAT IT READS IS OF BULK AT MOST 1048576: true; the input reads as it did. -/
def keyBackUptoRow : OpenClaim := { program := "ytaanbojalolhnaa", sum := "be935beae4c2024bc825c695624aa771b789adef7a56fffd585afe54dd808d70", func := "partita/partitalaw03.KeyBack", spec := "keyBack", inPlace := ["internal/abi.NoEscape", "internal/bytealg.MakeNoZero"], unfollowed := true, recurses := true, apart := false, narrowed := true }
def KeyBackUptoSaid : Prop := keyBackUptoRow.holds Try.pinned (OpenSpec.upto keyBackSpec)

end Rows
end Go.Proofs.Ytaanbojalolhnaa
