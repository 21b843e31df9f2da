/-
  NARROWER THAN 'FOR EVERY INPUT', by the rows' own cells (each row's printed sentence says how): PitchTells: laid · PitchBack: laid · PitchForms: laid · PitchUp: laid · PitchChain: laid · PitchOrder: laid · PitchOctave: laid · PitchNames: laid · PitchSigns: laid.
  DERIVED. THE GIVEN ROWS OF THIS SEAT. 9 by the template 'for every input the law returns true; each argument reads behind the call as it read before'; 0 by the template 'total and deterministic' (their statements: YtnpinngdiipogaaDoorTotals.lean).
  GIVEN WITH THE SEED: the statements are not yours to turn. If you find one false, say at which input.
  Laid BY PROGRAM, IN A SANDBOX (cutbox-rows.mjs): the forced cells as the released guide's own fill.sh prints them over the translation 8ddb1031390f7ead… (all of the seat's roots in one cut). By AI agents, Wed Nov 11 2026. No macro, syntax, notation, axiom, sorry.
-/
import Derived.Test.YtnpinngdiipogaaDoorChecked
import GoSem.Claim
import GoSem.ClaimJoined
import GoSem.ClaimMapViews
import Derived.JoinedTies
import Derived.KernelRfl
namespace Go.Proofs.YtnpinngdiipogaaDoor
/- THE CELL 'sum', in the pinned program and in every row, IS THE sha256 OF THE DUMP (.gsa) THAT YtnpinngdiipogaaDoorProg.lean LOADS. Nothing in Lean hashes anything: it is a label: what it is worth is what the hold of that sum in a sandbox is worth. -/
noncomputable def Tryd.pinned : Pinned := { name := "ytnpinngdiipogaadoor", sum := "8ddb1031390f7ead9335e3773705b3679415564986aede4be84572ef306bbbcf", checked := Tryd.checked }
namespace Rows
def none {H : Type} : Left H := { results := [], args := [] }

/- WHAT THE LISTED PACKAGE-LEVEL VARIABLES READ AS WHEN THE CALL BEGINS. Each datum BY PROGRAM (the guide's laid-datum.mjs) off the statement by which the dump's own 'gosem.cut.vars' lays the variable. In a bare row this is a premise. The card (YtnpinngdiipogaaDoorCards.lean) ties it to the program's text. -/
def laid_math_bits_deBruijn32tab {H : Type} : DataW H := .agg [.lit (.int .u8 0), .lit (.int .u8 1), .lit (.int .u8 28), .lit (.int .u8 2), .lit (.int .u8 29), .lit (.int .u8 14), .lit (.int .u8 24), .lit (.int .u8 3), .lit (.int .u8 30), .lit (.int .u8 22), .lit (.int .u8 20), .lit (.int .u8 15), .lit (.int .u8 25), .lit (.int .u8 17), .lit (.int .u8 4), .lit (.int .u8 8), .lit (.int .u8 31), .lit (.int .u8 27), .lit (.int .u8 13), .lit (.int .u8 23), .lit (.int .u8 21), .lit (.int .u8 19), .lit (.int .u8 16), .lit (.int .u8 7), .lit (.int .u8 26), .lit (.int .u8 12), .lit (.int .u8 18), .lit (.int .u8 6), .lit (.int .u8 11), .lit (.int .u8 5), .lit (.int .u8 10), .lit (.int .u8 9)]
def laid_math_bits_deBruijn64tab {H : Type} : DataW H := .agg [.lit (.int .u8 0), .lit (.int .u8 1), .lit (.int .u8 56), .lit (.int .u8 2), .lit (.int .u8 57), .lit (.int .u8 49), .lit (.int .u8 28), .lit (.int .u8 3), .lit (.int .u8 61), .lit (.int .u8 58), .lit (.int .u8 42), .lit (.int .u8 50), .lit (.int .u8 38), .lit (.int .u8 29), .lit (.int .u8 17), .lit (.int .u8 4), .lit (.int .u8 62), .lit (.int .u8 47), .lit (.int .u8 59), .lit (.int .u8 36), .lit (.int .u8 45), .lit (.int .u8 43), .lit (.int .u8 51), .lit (.int .u8 22), .lit (.int .u8 53), .lit (.int .u8 39), .lit (.int .u8 33), .lit (.int .u8 30), .lit (.int .u8 24), .lit (.int .u8 18), .lit (.int .u8 12), .lit (.int .u8 5), .lit (.int .u8 63), .lit (.int .u8 55), .lit (.int .u8 48), .lit (.int .u8 27), .lit (.int .u8 60), .lit (.int .u8 41), .lit (.int .u8 37), .lit (.int .u8 16), .lit (.int .u8 46), .lit (.int .u8 35), .lit (.int .u8 44), .lit (.int .u8 21), .lit (.int .u8 52), .lit (.int .u8 32), .lit (.int .u8 23), .lit (.int .u8 11), .lit (.int .u8 54), .lit (.int .u8 26), .lit (.int .u8 40), .lit (.int .u8 15), .lit (.int .u8 34), .lit (.int .u8 20), .lit (.int .u8 31), .lit (.int .u8 10), .lit (.int .u8 25), .lit (.int .u8 14), .lit (.int .u8 19), .lit (.int .u8 9), .lit (.int .u8 13), .lit (.int .u8 8), .lit (.int .u8 7), .lit (.int .u8 6)]
def laid_internal_strconv_uint64pow10 {H : Type} : DataW H := .agg [.lit (.int .u64 1), .lit (.int .u64 10), .lit (.int .u64 100), .lit (.int .u64 1000), .lit (.int .u64 10000), .lit (.int .u64 100000), .lit (.int .u64 1000000), .lit (.int .u64 10000000), .lit (.int .u64 100000000), .lit (.int .u64 1000000000), .lit (.int .u64 10000000000), .lit (.int .u64 100000000000), .lit (.int .u64 1000000000000), .lit (.int .u64 10000000000000), .lit (.int .u64 100000000000000), .lit (.int .u64 1000000000000000), .lit (.int .u64 10000000000000000), .lit (.int .u64 100000000000000000), .lit (.int .u64 1000000000000000000), .lit (.int .u64 10000000000000000000)]
def laid_partita_pitch_halfTones {H : Type} : DataW H := .agg [.lit (.int .i64 0), .lit (.int .i64 2), .lit (.int .i64 4), .lit (.int .i64 5), .lit (.int .i64 7), .lit (.int .i64 9), .lit (.int .i64 11)]

/-- 'partitalaw02.PitchTells': WHATEVER THE INPUT: true; the input reads as it did. -/
def pitchTellsSpec : ChangeSpec := { name := "pitchTells", fn := fun _ => fun
  | [d1, d2, d3, d4] => { results := [.lit (.bool true)], args := [d1, d2, d3, d4] }
  | _ => none }
def pitchTellsRow : OpenClaim := { program := "ytnpinngdiipogaadoor", sum := "8ddb1031390f7ead9335e3773705b3679415564986aede4be84572ef306bbbcf", func := "partita/partitalaw02.PitchTells", spec := "pitchTells", inPlace := ["internal/abi.NoEscape", "internal/bytealg.MakeNoZero"], named := ["partita/pitch.halfTones", "internal/strconv.uint64pow10", "math/bits.deBruijn32tab", "math/bits.deBruijn64tab"], apart := false, laid := [("math/bits.deBruijn32tab", laid_math_bits_deBruijn32tab), ("math/bits.deBruijn64tab", laid_math_bits_deBruijn64tab), ("internal/strconv.uint64pow10", laid_internal_strconv_uint64pow10), ("partita/pitch.halfTones", laid_partita_pitch_halfTones)] }
def PitchTellsSaid : Prop := pitchTellsRow.holds Tryd.pinned (OpenSpec.ofChange pitchTellsSpec)

/-- ITS FALSE NEIGHBOUR: 'it returns false'. Refute it at one input. -/
def pitchTellsWrong : ChangeSpec := { name := "pitchTells", fn := fun _ => fun
  | [d1, d2, d3, d4] => { results := [.lit (.bool false)], args := [d1, d2, d3, d4] }
  | _ => none }
def PitchTellsWrongFalsely : Prop := pitchTellsRow.holds Tryd.pinned (OpenSpec.ofChange pitchTellsWrong)

/-- 'partitalaw02.PitchBack': WHATEVER THE INPUT: true; the input reads as it did. -/
def pitchBackSpec : ChangeSpec := { name := "pitchBack", fn := fun _ => fun
  | [d1, d2] => { results := [.lit (.bool true)], args := [d1, d2] }
  | _ => none }
def pitchBackRow : OpenClaim := { program := "ytnpinngdiipogaadoor", sum := "8ddb1031390f7ead9335e3773705b3679415564986aede4be84572ef306bbbcf", func := "partita/partitalaw02.PitchBack", spec := "pitchBack", inPlace := ["internal/abi.NoEscape", "internal/bytealg.MakeNoZero"], named := ["partita/pitch.halfTones", "internal/strconv.uint64pow10", "math/bits.deBruijn32tab", "math/bits.deBruijn64tab"], apart := false, laid := [("math/bits.deBruijn32tab", laid_math_bits_deBruijn32tab), ("math/bits.deBruijn64tab", laid_math_bits_deBruijn64tab), ("internal/strconv.uint64pow10", laid_internal_strconv_uint64pow10), ("partita/pitch.halfTones", laid_partita_pitch_halfTones)] }
def PitchBackSaid : Prop := pitchBackRow.holds Tryd.pinned (OpenSpec.ofChange pitchBackSpec)

/-- ITS FALSE NEIGHBOUR: 'it returns false'. Refute it at one input. -/
def pitchBackWrong : ChangeSpec := { name := "pitchBack", fn := fun _ => fun
  | [d1, d2] => { results := [.lit (.bool false)], args := [d1, d2] }
  | _ => none }
def PitchBackWrongFalsely : Prop := pitchBackRow.holds Tryd.pinned (OpenSpec.ofChange pitchBackWrong)

/-- 'partitalaw02.PitchForms': WHATEVER THE INPUT: true; the input reads as it did. -/
def pitchFormsSpec : ChangeSpec := { name := "pitchForms", fn := fun _ => fun
  | [d1, d2, d3, d4] => { results := [.lit (.bool true)], args := [d1, d2, d3, d4] }
  | _ => none }
def pitchFormsRow : OpenClaim := { program := "ytnpinngdiipogaadoor", sum := "8ddb1031390f7ead9335e3773705b3679415564986aede4be84572ef306bbbcf", func := "partita/partitalaw02.PitchForms", spec := "pitchForms", inPlace := ["internal/abi.NoEscape", "internal/bytealg.MakeNoZero"], named := ["partita/pitch.halfTones", "internal/strconv.uint64pow10", "math/bits.deBruijn32tab", "math/bits.deBruijn64tab"], apart := false, laid := [("math/bits.deBruijn32tab", laid_math_bits_deBruijn32tab), ("math/bits.deBruijn64tab", laid_math_bits_deBruijn64tab), ("internal/strconv.uint64pow10", laid_internal_strconv_uint64pow10), ("partita/pitch.halfTones", laid_partita_pitch_halfTones)] }
def PitchFormsSaid : Prop := pitchFormsRow.holds Tryd.pinned (OpenSpec.ofChange pitchFormsSpec)

/-- ITS FALSE NEIGHBOUR: 'it returns false'. Refute it at one input. -/
def pitchFormsWrong : ChangeSpec := { name := "pitchForms", fn := fun _ => fun
  | [d1, d2, d3, d4] => { results := [.lit (.bool false)], args := [d1, d2, d3, d4] }
  | _ => none }
def PitchFormsWrongFalsely : Prop := pitchFormsRow.holds Tryd.pinned (OpenSpec.ofChange pitchFormsWrong)

/-- 'partitalaw02.PitchUp': WHATEVER THE INPUT: true; the input reads as it did. -/
def pitchUpSpec : ChangeSpec := { name := "pitchUp", fn := fun _ => fun
  | [d1, d2] => { results := [.lit (.bool true)], args := [d1, d2] }
  | _ => none }
def pitchUpRow : OpenClaim := { program := "ytnpinngdiipogaadoor", sum := "8ddb1031390f7ead9335e3773705b3679415564986aede4be84572ef306bbbcf", func := "partita/partitalaw02.PitchUp", spec := "pitchUp", inPlace := ["internal/abi.NoEscape", "internal/bytealg.MakeNoZero"], named := ["partita/pitch.halfTones", "internal/strconv.uint64pow10", "math/bits.deBruijn32tab", "math/bits.deBruijn64tab"], apart := false, laid := [("math/bits.deBruijn32tab", laid_math_bits_deBruijn32tab), ("math/bits.deBruijn64tab", laid_math_bits_deBruijn64tab), ("internal/strconv.uint64pow10", laid_internal_strconv_uint64pow10), ("partita/pitch.halfTones", laid_partita_pitch_halfTones)] }
def PitchUpSaid : Prop := pitchUpRow.holds Tryd.pinned (OpenSpec.ofChange pitchUpSpec)

/-- ITS FALSE NEIGHBOUR: 'it returns false'. Refute it at one input. -/
def pitchUpWrong : ChangeSpec := { name := "pitchUp", fn := fun _ => fun
  | [d1, d2] => { results := [.lit (.bool false)], args := [d1, d2] }
  | _ => none }
def PitchUpWrongFalsely : Prop := pitchUpRow.holds Tryd.pinned (OpenSpec.ofChange pitchUpWrong)

/-- 'partitalaw02.PitchChain': WHATEVER THE INPUT: true; the input reads as it did. -/
def pitchChainSpec : ChangeSpec := { name := "pitchChain", fn := fun _ => fun
  | [d1, d2, d3] => { results := [.lit (.bool true)], args := [d1, d2, d3] }
  | _ => none }
def pitchChainRow : OpenClaim := { program := "ytnpinngdiipogaadoor", sum := "8ddb1031390f7ead9335e3773705b3679415564986aede4be84572ef306bbbcf", func := "partita/partitalaw02.PitchChain", spec := "pitchChain", inPlace := ["internal/abi.NoEscape", "internal/bytealg.MakeNoZero"], named := ["partita/pitch.halfTones", "internal/strconv.uint64pow10", "math/bits.deBruijn32tab", "math/bits.deBruijn64tab"], apart := false, laid := [("math/bits.deBruijn32tab", laid_math_bits_deBruijn32tab), ("math/bits.deBruijn64tab", laid_math_bits_deBruijn64tab), ("internal/strconv.uint64pow10", laid_internal_strconv_uint64pow10), ("partita/pitch.halfTones", laid_partita_pitch_halfTones)] }
def PitchChainSaid : Prop := pitchChainRow.holds Tryd.pinned (OpenSpec.ofChange pitchChainSpec)

/-- ITS FALSE NEIGHBOUR: 'it returns false'. Refute it at one input. -/
def pitchChainWrong : ChangeSpec := { name := "pitchChain", fn := fun _ => fun
  | [d1, d2, d3] => { results := [.lit (.bool false)], args := [d1, d2, d3] }
  | _ => none }
def PitchChainWrongFalsely : Prop := pitchChainRow.holds Tryd.pinned (OpenSpec.ofChange pitchChainWrong)

/-- 'partitalaw02.PitchOrder': WHATEVER THE INPUT: true; the input reads as it did. -/
def pitchOrderSpec : ChangeSpec := { name := "pitchOrder", fn := fun _ => fun
  | [d1, d2, d3] => { results := [.lit (.bool true)], args := [d1, d2, d3] }
  | _ => none }
def pitchOrderRow : OpenClaim := { program := "ytnpinngdiipogaadoor", sum := "8ddb1031390f7ead9335e3773705b3679415564986aede4be84572ef306bbbcf", func := "partita/partitalaw02.PitchOrder", spec := "pitchOrder", inPlace := ["internal/abi.NoEscape", "internal/bytealg.MakeNoZero"], named := ["partita/pitch.halfTones", "internal/strconv.uint64pow10", "math/bits.deBruijn32tab", "math/bits.deBruijn64tab"], apart := false, laid := [("math/bits.deBruijn32tab", laid_math_bits_deBruijn32tab), ("math/bits.deBruijn64tab", laid_math_bits_deBruijn64tab), ("internal/strconv.uint64pow10", laid_internal_strconv_uint64pow10), ("partita/pitch.halfTones", laid_partita_pitch_halfTones)] }
def PitchOrderSaid : Prop := pitchOrderRow.holds Tryd.pinned (OpenSpec.ofChange pitchOrderSpec)

/-- ITS FALSE NEIGHBOUR: 'it returns false'. Refute it at one input. -/
def pitchOrderWrong : ChangeSpec := { name := "pitchOrder", fn := fun _ => fun
  | [d1, d2, d3] => { results := [.lit (.bool false)], args := [d1, d2, d3] }
  | _ => none }
def PitchOrderWrongFalsely : Prop := pitchOrderRow.holds Tryd.pinned (OpenSpec.ofChange pitchOrderWrong)

/-- 'partitalaw02.PitchOctave': WHATEVER THE INPUT: true; the input reads as it did. -/
def pitchOctaveSpec : ChangeSpec := { name := "pitchOctave", fn := fun _ => fun
  | [d1, d2] => { results := [.lit (.bool true)], args := [d1, d2] }
  | _ => none }
def pitchOctaveRow : OpenClaim := { program := "ytnpinngdiipogaadoor", sum := "8ddb1031390f7ead9335e3773705b3679415564986aede4be84572ef306bbbcf", func := "partita/partitalaw02.PitchOctave", spec := "pitchOctave", inPlace := ["internal/abi.NoEscape", "internal/bytealg.MakeNoZero"], named := ["partita/pitch.halfTones", "internal/strconv.uint64pow10", "math/bits.deBruijn32tab", "math/bits.deBruijn64tab"], apart := false, laid := [("math/bits.deBruijn32tab", laid_math_bits_deBruijn32tab), ("math/bits.deBruijn64tab", laid_math_bits_deBruijn64tab), ("internal/strconv.uint64pow10", laid_internal_strconv_uint64pow10), ("partita/pitch.halfTones", laid_partita_pitch_halfTones)] }
def PitchOctaveSaid : Prop := pitchOctaveRow.holds Tryd.pinned (OpenSpec.ofChange pitchOctaveSpec)

/-- ITS FALSE NEIGHBOUR: 'it returns false'. Refute it at one input. -/
def pitchOctaveWrong : ChangeSpec := { name := "pitchOctave", fn := fun _ => fun
  | [d1, d2] => { results := [.lit (.bool false)], args := [d1, d2] }
  | _ => none }
def PitchOctaveWrongFalsely : Prop := pitchOctaveRow.holds Tryd.pinned (OpenSpec.ofChange pitchOctaveWrong)

/-- 'partitalaw02.PitchNames': WHATEVER THE INPUT: true; the input reads as it did. -/
def pitchNamesSpec : ChangeSpec := { name := "pitchNames", fn := fun _ => fun
  | [d] => { results := [.lit (.bool true)], args := [d] }
  | _ => none }
def pitchNamesRow : OpenClaim := { program := "ytnpinngdiipogaadoor", sum := "8ddb1031390f7ead9335e3773705b3679415564986aede4be84572ef306bbbcf", func := "partita/partitalaw02.PitchNames", spec := "pitchNames", inPlace := ["internal/abi.NoEscape", "internal/bytealg.MakeNoZero"], named := ["partita/pitch.halfTones", "internal/strconv.uint64pow10", "math/bits.deBruijn32tab", "math/bits.deBruijn64tab"], apart := false, laid := [("math/bits.deBruijn32tab", laid_math_bits_deBruijn32tab), ("math/bits.deBruijn64tab", laid_math_bits_deBruijn64tab), ("internal/strconv.uint64pow10", laid_internal_strconv_uint64pow10), ("partita/pitch.halfTones", laid_partita_pitch_halfTones)] }
def PitchNamesSaid : Prop := pitchNamesRow.holds Tryd.pinned (OpenSpec.ofChange pitchNamesSpec)

/-- ITS FALSE NEIGHBOUR: 'it returns false'. Refute it at one input. -/
def pitchNamesWrong : ChangeSpec := { name := "pitchNames", fn := fun _ => fun
  | [d] => { results := [.lit (.bool false)], args := [d] }
  | _ => none }
def PitchNamesWrongFalsely : Prop := pitchNamesRow.holds Tryd.pinned (OpenSpec.ofChange pitchNamesWrong)

/-- 'partitalaw02.PitchSigns': WHATEVER THE INPUT: true; the input reads as it did. -/
def pitchSignsSpec : ChangeSpec := { name := "pitchSigns", fn := fun _ => fun
  | [d] => { results := [.lit (.bool true)], args := [d] }
  | _ => none }
def pitchSignsRow : OpenClaim := { program := "ytnpinngdiipogaadoor", sum := "8ddb1031390f7ead9335e3773705b3679415564986aede4be84572ef306bbbcf", func := "partita/partitalaw02.PitchSigns", spec := "pitchSigns", inPlace := ["internal/abi.NoEscape", "internal/bytealg.MakeNoZero"], named := ["partita/pitch.halfTones", "internal/strconv.uint64pow10", "math/bits.deBruijn32tab", "math/bits.deBruijn64tab"], apart := false, laid := [("math/bits.deBruijn32tab", laid_math_bits_deBruijn32tab), ("math/bits.deBruijn64tab", laid_math_bits_deBruijn64tab), ("internal/strconv.uint64pow10", laid_internal_strconv_uint64pow10), ("partita/pitch.halfTones", laid_partita_pitch_halfTones)] }
def PitchSignsSaid : Prop := pitchSignsRow.holds Tryd.pinned (OpenSpec.ofChange pitchSignsSpec)

/-- ITS FALSE NEIGHBOUR: 'it returns false'. Refute it at one input. -/
def pitchSignsWrong : ChangeSpec := { name := "pitchSigns", fn := fun _ => fun
  | [d] => { results := [.lit (.bool false)], args := [d] }
  | _ => none }
def PitchSignsWrongFalsely : Prop := pitchSignsRow.holds Tryd.pinned (OpenSpec.ofChange pitchSignsWrong)

/- THE SECOND FORM. 'bulk': how many values and letters a reading holds, each counted each time it is reached (what is shared counts as often as it is met; a slice's spare places count too). A statement '..UptoSaid' is the law's where the arguments, and the package variables that the reading takes, are together of bulk at most 1048576: NARROWER than '..Said'. Prove '..Said' where nothing that the law and all that it calls make is longer than what came in: it says more and counts as full. Else prove '..UptoSaid'. A law counts once. -/
mutual
def uptoBulk {H : Type} : DataW H → Nat
  | .lit (.string bytes) => bytes.length + 1
  | .lit _ => 1
  | .nil => 1
  | .ptr d => uptoBulk d + 1
  | .slice elems spare => uptoBulkAll elems + uptoBulkAll spare + 1
  | .agg parts => uptoBulkAll parts + 1
  | .iface _ d => uptoBulk d + 1
  | .map entries => uptoBulkEntries entries + 1
  | .held _ => 1
def uptoBulkAll {H : Type} : List (DataW H) → Nat
  | [] => 0
  | d :: r => uptoBulk d + uptoBulkAll r
def uptoBulkEntries {H : Type} : List (Lit × DataW H) → Nat
  | [] => 0
  | x :: r => uptoBulkEntry x + uptoBulkEntries r
def uptoBulkEntry {H : Type} : Lit × DataW H → Nat
  | (.string bytes, d) => bytes.length + uptoBulk d + 1
  | (_, d) => uptoBulk d + 1
 end
def uptoSmall : (H : Type) → List (DataW H) → Bool := fun _ ds => decide (uptoBulkAll ds ≤ 1048576)
def OpenSpec.upto (s : _root_.Go.ChangeSpec) : _root_.Go.OpenSpec := { _root_.Go.OpenSpec.ofChange s with cond := some uptoSmall }

/-- 'partitalaw02.PitchTells', WHERE WHAT IT READS IS OF BULK AT MOST 1048576: true; the input reads as it did. -/
def pitchTellsUptoRow : OpenClaim := { program := "ytnpinngdiipogaadoor", sum := "8ddb1031390f7ead9335e3773705b3679415564986aede4be84572ef306bbbcf", func := "partita/partitalaw02.PitchTells", spec := "pitchTells", inPlace := ["internal/abi.NoEscape", "internal/bytealg.MakeNoZero"], named := ["partita/pitch.halfTones", "internal/strconv.uint64pow10", "math/bits.deBruijn32tab", "math/bits.deBruijn64tab"], apart := false, laid := [("math/bits.deBruijn32tab", laid_math_bits_deBruijn32tab), ("math/bits.deBruijn64tab", laid_math_bits_deBruijn64tab), ("internal/strconv.uint64pow10", laid_internal_strconv_uint64pow10), ("partita/pitch.halfTones", laid_partita_pitch_halfTones)], narrowed := true }
def PitchTellsUptoSaid : Prop := pitchTellsUptoRow.holds Tryd.pinned (OpenSpec.upto pitchTellsSpec)

/-- 'partitalaw02.PitchBack', WHERE WHAT IT READS IS OF BULK AT MOST 1048576: true; the input reads as it did. -/
def pitchBackUptoRow : OpenClaim := { program := "ytnpinngdiipogaadoor", sum := "8ddb1031390f7ead9335e3773705b3679415564986aede4be84572ef306bbbcf", func := "partita/partitalaw02.PitchBack", spec := "pitchBack", inPlace := ["internal/abi.NoEscape", "internal/bytealg.MakeNoZero"], named := ["partita/pitch.halfTones", "internal/strconv.uint64pow10", "math/bits.deBruijn32tab", "math/bits.deBruijn64tab"], apart := false, laid := [("math/bits.deBruijn32tab", laid_math_bits_deBruijn32tab), ("math/bits.deBruijn64tab", laid_math_bits_deBruijn64tab), ("internal/strconv.uint64pow10", laid_internal_strconv_uint64pow10), ("partita/pitch.halfTones", laid_partita_pitch_halfTones)], narrowed := true }
def PitchBackUptoSaid : Prop := pitchBackUptoRow.holds Tryd.pinned (OpenSpec.upto pitchBackSpec)

/-- 'partitalaw02.PitchForms', WHERE WHAT IT READS IS OF BULK AT MOST 1048576: true; the input reads as it did. -/
def pitchFormsUptoRow : OpenClaim := { program := "ytnpinngdiipogaadoor", sum := "8ddb1031390f7ead9335e3773705b3679415564986aede4be84572ef306bbbcf", func := "partita/partitalaw02.PitchForms", spec := "pitchForms", inPlace := ["internal/abi.NoEscape", "internal/bytealg.MakeNoZero"], named := ["partita/pitch.halfTones", "internal/strconv.uint64pow10", "math/bits.deBruijn32tab", "math/bits.deBruijn64tab"], apart := false, laid := [("math/bits.deBruijn32tab", laid_math_bits_deBruijn32tab), ("math/bits.deBruijn64tab", laid_math_bits_deBruijn64tab), ("internal/strconv.uint64pow10", laid_internal_strconv_uint64pow10), ("partita/pitch.halfTones", laid_partita_pitch_halfTones)], narrowed := true }
def PitchFormsUptoSaid : Prop := pitchFormsUptoRow.holds Tryd.pinned (OpenSpec.upto pitchFormsSpec)

/-- 'partitalaw02.PitchUp', WHERE WHAT IT READS IS OF BULK AT MOST 1048576: true; the input reads as it did. -/
def pitchUpUptoRow : OpenClaim := { program := "ytnpinngdiipogaadoor", sum := "8ddb1031390f7ead9335e3773705b3679415564986aede4be84572ef306bbbcf", func := "partita/partitalaw02.PitchUp", spec := "pitchUp", inPlace := ["internal/abi.NoEscape", "internal/bytealg.MakeNoZero"], named := ["partita/pitch.halfTones", "internal/strconv.uint64pow10", "math/bits.deBruijn32tab", "math/bits.deBruijn64tab"], apart := false, laid := [("math/bits.deBruijn32tab", laid_math_bits_deBruijn32tab), ("math/bits.deBruijn64tab", laid_math_bits_deBruijn64tab), ("internal/strconv.uint64pow10", laid_internal_strconv_uint64pow10), ("partita/pitch.halfTones", laid_partita_pitch_halfTones)], narrowed := true }
def PitchUpUptoSaid : Prop := pitchUpUptoRow.holds Tryd.pinned (OpenSpec.upto pitchUpSpec)

/-- 'partitalaw02.PitchChain', WHERE WHAT IT READS IS OF BULK AT MOST 1048576: true; the input reads as it did. -/
def pitchChainUptoRow : OpenClaim := { program := "ytnpinngdiipogaadoor", sum := "8ddb1031390f7ead9335e3773705b3679415564986aede4be84572ef306bbbcf", func := "partita/partitalaw02.PitchChain", spec := "pitchChain", inPlace := ["internal/abi.NoEscape", "internal/bytealg.MakeNoZero"], named := ["partita/pitch.halfTones", "internal/strconv.uint64pow10", "math/bits.deBruijn32tab", "math/bits.deBruijn64tab"], apart := false, laid := [("math/bits.deBruijn32tab", laid_math_bits_deBruijn32tab), ("math/bits.deBruijn64tab", laid_math_bits_deBruijn64tab), ("internal/strconv.uint64pow10", laid_internal_strconv_uint64pow10), ("partita/pitch.halfTones", laid_partita_pitch_halfTones)], narrowed := true }
def PitchChainUptoSaid : Prop := pitchChainUptoRow.holds Tryd.pinned (OpenSpec.upto pitchChainSpec)

/-- 'partitalaw02.PitchOrder', WHERE WHAT IT READS IS OF BULK AT MOST 1048576: true; the input reads as it did. -/
def pitchOrderUptoRow : OpenClaim := { program := "ytnpinngdiipogaadoor", sum := "8ddb1031390f7ead9335e3773705b3679415564986aede4be84572ef306bbbcf", func := "partita/partitalaw02.PitchOrder", spec := "pitchOrder", inPlace := ["internal/abi.NoEscape", "internal/bytealg.MakeNoZero"], named := ["partita/pitch.halfTones", "internal/strconv.uint64pow10", "math/bits.deBruijn32tab", "math/bits.deBruijn64tab"], apart := false, laid := [("math/bits.deBruijn32tab", laid_math_bits_deBruijn32tab), ("math/bits.deBruijn64tab", laid_math_bits_deBruijn64tab), ("internal/strconv.uint64pow10", laid_internal_strconv_uint64pow10), ("partita/pitch.halfTones", laid_partita_pitch_halfTones)], narrowed := true }
def PitchOrderUptoSaid : Prop := pitchOrderUptoRow.holds Tryd.pinned (OpenSpec.upto pitchOrderSpec)

/-- 'partitalaw02.PitchOctave', WHERE WHAT IT READS IS OF BULK AT MOST 1048576: true; the input reads as it did. -/
def pitchOctaveUptoRow : OpenClaim := { program := "ytnpinngdiipogaadoor", sum := "8ddb1031390f7ead9335e3773705b3679415564986aede4be84572ef306bbbcf", func := "partita/partitalaw02.PitchOctave", spec := "pitchOctave", inPlace := ["internal/abi.NoEscape", "internal/bytealg.MakeNoZero"], named := ["partita/pitch.halfTones", "internal/strconv.uint64pow10", "math/bits.deBruijn32tab", "math/bits.deBruijn64tab"], apart := false, laid := [("math/bits.deBruijn32tab", laid_math_bits_deBruijn32tab), ("math/bits.deBruijn64tab", laid_math_bits_deBruijn64tab), ("internal/strconv.uint64pow10", laid_internal_strconv_uint64pow10), ("partita/pitch.halfTones", laid_partita_pitch_halfTones)], narrowed := true }
def PitchOctaveUptoSaid : Prop := pitchOctaveUptoRow.holds Tryd.pinned (OpenSpec.upto pitchOctaveSpec)

/-- 'partitalaw02.PitchNames', WHERE WHAT IT READS IS OF BULK AT MOST 1048576: true; the input reads as it did. -/
def pitchNamesUptoRow : OpenClaim := { program := "ytnpinngdiipogaadoor", sum := "8ddb1031390f7ead9335e3773705b3679415564986aede4be84572ef306bbbcf", func := "partita/partitalaw02.PitchNames", spec := "pitchNames", inPlace := ["internal/abi.NoEscape", "internal/bytealg.MakeNoZero"], named := ["partita/pitch.halfTones", "internal/strconv.uint64pow10", "math/bits.deBruijn32tab", "math/bits.deBruijn64tab"], apart := false, laid := [("math/bits.deBruijn32tab", laid_math_bits_deBruijn32tab), ("math/bits.deBruijn64tab", laid_math_bits_deBruijn64tab), ("internal/strconv.uint64pow10", laid_internal_strconv_uint64pow10), ("partita/pitch.halfTones", laid_partita_pitch_halfTones)], narrowed := true }
def PitchNamesUptoSaid : Prop := pitchNamesUptoRow.holds Tryd.pinned (OpenSpec.upto pitchNamesSpec)

/-- 'partitalaw02.PitchSigns', WHERE WHAT IT READS IS OF BULK AT MOST 1048576: true; the input reads as it did. -/
def pitchSignsUptoRow : OpenClaim := { program := "ytnpinngdiipogaadoor", sum := "8ddb1031390f7ead9335e3773705b3679415564986aede4be84572ef306bbbcf", func := "partita/partitalaw02.PitchSigns", spec := "pitchSigns", inPlace := ["internal/abi.NoEscape", "internal/bytealg.MakeNoZero"], named := ["partita/pitch.halfTones", "internal/strconv.uint64pow10", "math/bits.deBruijn32tab", "math/bits.deBruijn64tab"], apart := false, laid := [("math/bits.deBruijn32tab", laid_math_bits_deBruijn32tab), ("math/bits.deBruijn64tab", laid_math_bits_deBruijn64tab), ("internal/strconv.uint64pow10", laid_internal_strconv_uint64pow10), ("partita/pitch.halfTones", laid_partita_pitch_halfTones)], narrowed := true }
def PitchSignsUptoSaid : Prop := pitchSignsUptoRow.holds Tryd.pinned (OpenSpec.upto pitchSignsSpec)

end Rows
end Go.Proofs.YtnpinngdiipogaaDoor
