/-
  DERIVED. GIVEN WITH THE SEED: THE CARDS: each row of YtnpinngdiipogaaDoorRows.lean that lists a variable, with what it lists TIED to the program's text (the seventh form; the later family's looks); each row that meets fmt, with fmt's text TOLD by the authors' own Lean function (tested against real Go, not proved from fmt's source: count such statements apart). THE CARD IS WHAT COUNTS. Prove the row's statement (the work); the ties are given (YtnpinngdiipogaaDoorTie.lean); close each card by the builder's one call (the guide's Derived/Test/ToyasCard.lean, 'card_holds'). Laid BY PROGRAM, IN A SANDBOX (cutbox-door.mjs). By AI agents, Wed Nov 11 2026. No macro, syntax, notation, axiom, sorry.
-/
import Derived.Test.YtnpinngdiipogaaDoorRows
import GoSem.ClaimSeven
namespace Go.Proofs.YtnpinngdiipogaaDoor
namespace Rows

/-- THE TIED CARD OF 'partitalaw02.PitchTells'. -/
def pitchTellsCard : Claim7 := { stood := { row := pitchTellsRow, standIns := [], harness := (true, "7b0123ab3eec27915cb161c93ecd6793e6bce54466a119cb3cb1919107bd8572"), looks := false }, kinds := [], alts := [], laidByText := true, laidKinds := [.data, .data, .data, .data], laidTests := true, laidLooks := .later }
def PitchTellsCardSaid : Prop := Claim7.holds Tryd.pinned (.plain (OpenSpec.ofChange pitchTellsSpec)) pitchTellsCard

/-- THE TIED CARD OF 'partitalaw02.PitchBack'. -/
def pitchBackCard : Claim7 := { stood := { row := pitchBackRow, standIns := [], harness := (true, "7b0123ab3eec27915cb161c93ecd6793e6bce54466a119cb3cb1919107bd8572"), looks := false }, kinds := [], alts := [], laidByText := true, laidKinds := [.data, .data, .data, .data], laidTests := true, laidLooks := .later }
def PitchBackCardSaid : Prop := Claim7.holds Tryd.pinned (.plain (OpenSpec.ofChange pitchBackSpec)) pitchBackCard

/-- THE TIED CARD OF 'partitalaw02.PitchForms'. -/
def pitchFormsCard : Claim7 := { stood := { row := pitchFormsRow, standIns := [], harness := (true, "7b0123ab3eec27915cb161c93ecd6793e6bce54466a119cb3cb1919107bd8572"), looks := false }, kinds := [], alts := [], laidByText := true, laidKinds := [.data, .data, .data, .data], laidTests := true, laidLooks := .later }
def PitchFormsCardSaid : Prop := Claim7.holds Tryd.pinned (.plain (OpenSpec.ofChange pitchFormsSpec)) pitchFormsCard

/-- THE TIED CARD OF 'partitalaw02.PitchUp'. -/
def pitchUpCard : Claim7 := { stood := { row := pitchUpRow, standIns := [], harness := (true, "7b0123ab3eec27915cb161c93ecd6793e6bce54466a119cb3cb1919107bd8572"), looks := false }, kinds := [], alts := [], laidByText := true, laidKinds := [.data, .data, .data, .data], laidTests := true, laidLooks := .later }
def PitchUpCardSaid : Prop := Claim7.holds Tryd.pinned (.plain (OpenSpec.ofChange pitchUpSpec)) pitchUpCard

/-- THE TIED CARD OF 'partitalaw02.PitchChain'. -/
def pitchChainCard : Claim7 := { stood := { row := pitchChainRow, standIns := [], harness := (true, "7b0123ab3eec27915cb161c93ecd6793e6bce54466a119cb3cb1919107bd8572"), looks := false }, kinds := [], alts := [], laidByText := true, laidKinds := [.data, .data, .data, .data], laidTests := true, laidLooks := .later }
def PitchChainCardSaid : Prop := Claim7.holds Tryd.pinned (.plain (OpenSpec.ofChange pitchChainSpec)) pitchChainCard

/-- THE TIED CARD OF 'partitalaw02.PitchOrder'. -/
def pitchOrderCard : Claim7 := { stood := { row := pitchOrderRow, standIns := [], harness := (true, "7b0123ab3eec27915cb161c93ecd6793e6bce54466a119cb3cb1919107bd8572"), looks := false }, kinds := [], alts := [], laidByText := true, laidKinds := [.data, .data, .data, .data], laidTests := true, laidLooks := .later }
def PitchOrderCardSaid : Prop := Claim7.holds Tryd.pinned (.plain (OpenSpec.ofChange pitchOrderSpec)) pitchOrderCard

/-- THE TIED CARD OF 'partitalaw02.PitchOctave'. -/
def pitchOctaveCard : Claim7 := { stood := { row := pitchOctaveRow, standIns := [], harness := (true, "7b0123ab3eec27915cb161c93ecd6793e6bce54466a119cb3cb1919107bd8572"), looks := false }, kinds := [], alts := [], laidByText := true, laidKinds := [.data, .data, .data, .data], laidTests := true, laidLooks := .later }
def PitchOctaveCardSaid : Prop := Claim7.holds Tryd.pinned (.plain (OpenSpec.ofChange pitchOctaveSpec)) pitchOctaveCard

/-- THE TIED CARD OF 'partitalaw02.PitchNames'. -/
def pitchNamesCard : Claim7 := { stood := { row := pitchNamesRow, standIns := [], harness := (true, "7b0123ab3eec27915cb161c93ecd6793e6bce54466a119cb3cb1919107bd8572"), looks := false }, kinds := [], alts := [], laidByText := true, laidKinds := [.data, .data, .data, .data], laidTests := true, laidLooks := .later }
def PitchNamesCardSaid : Prop := Claim7.holds Tryd.pinned (.plain (OpenSpec.ofChange pitchNamesSpec)) pitchNamesCard

/-- THE TIED CARD OF 'partitalaw02.PitchSigns'. -/
def pitchSignsCard : Claim7 := { stood := { row := pitchSignsRow, standIns := [], harness := (true, "7b0123ab3eec27915cb161c93ecd6793e6bce54466a119cb3cb1919107bd8572"), looks := false }, kinds := [], alts := [], laidByText := true, laidKinds := [.data, .data, .data, .data], laidTests := true, laidLooks := .later }
def PitchSignsCardSaid : Prop := Claim7.holds Tryd.pinned (.plain (OpenSpec.ofChange pitchSignsSpec)) pitchSignsCard

/-- THE SECOND FORM's CARD OF 'partitalaw02.PitchTells'. -/
def pitchTellsUptoCard : Claim7 := { stood := { row := pitchTellsUptoRow, standIns := [], harness := (true, "7b0123ab3eec27915cb161c93ecd6793e6bce54466a119cb3cb1919107bd8572"), looks := false }, kinds := [], alts := [], laidByText := true, laidKinds := [.data, .data, .data, .data], laidTests := true, laidLooks := .later }
def PitchTellsUptoCardSaid : Prop := Claim7.holds Tryd.pinned (.plain (OpenSpec.upto pitchTellsSpec)) pitchTellsUptoCard

/-- THE SECOND FORM's CARD OF 'partitalaw02.PitchBack'. -/
def pitchBackUptoCard : Claim7 := { stood := { row := pitchBackUptoRow, standIns := [], harness := (true, "7b0123ab3eec27915cb161c93ecd6793e6bce54466a119cb3cb1919107bd8572"), looks := false }, kinds := [], alts := [], laidByText := true, laidKinds := [.data, .data, .data, .data], laidTests := true, laidLooks := .later }
def PitchBackUptoCardSaid : Prop := Claim7.holds Tryd.pinned (.plain (OpenSpec.upto pitchBackSpec)) pitchBackUptoCard

/-- THE SECOND FORM's CARD OF 'partitalaw02.PitchForms'. -/
def pitchFormsUptoCard : Claim7 := { stood := { row := pitchFormsUptoRow, standIns := [], harness := (true, "7b0123ab3eec27915cb161c93ecd6793e6bce54466a119cb3cb1919107bd8572"), looks := false }, kinds := [], alts := [], laidByText := true, laidKinds := [.data, .data, .data, .data], laidTests := true, laidLooks := .later }
def PitchFormsUptoCardSaid : Prop := Claim7.holds Tryd.pinned (.plain (OpenSpec.upto pitchFormsSpec)) pitchFormsUptoCard

/-- THE SECOND FORM's CARD OF 'partitalaw02.PitchUp'. -/
def pitchUpUptoCard : Claim7 := { stood := { row := pitchUpUptoRow, standIns := [], harness := (true, "7b0123ab3eec27915cb161c93ecd6793e6bce54466a119cb3cb1919107bd8572"), looks := false }, kinds := [], alts := [], laidByText := true, laidKinds := [.data, .data, .data, .data], laidTests := true, laidLooks := .later }
def PitchUpUptoCardSaid : Prop := Claim7.holds Tryd.pinned (.plain (OpenSpec.upto pitchUpSpec)) pitchUpUptoCard

/-- THE SECOND FORM's CARD OF 'partitalaw02.PitchChain'. -/
def pitchChainUptoCard : Claim7 := { stood := { row := pitchChainUptoRow, standIns := [], harness := (true, "7b0123ab3eec27915cb161c93ecd6793e6bce54466a119cb3cb1919107bd8572"), looks := false }, kinds := [], alts := [], laidByText := true, laidKinds := [.data, .data, .data, .data], laidTests := true, laidLooks := .later }
def PitchChainUptoCardSaid : Prop := Claim7.holds Tryd.pinned (.plain (OpenSpec.upto pitchChainSpec)) pitchChainUptoCard

/-- THE SECOND FORM's CARD OF 'partitalaw02.PitchOrder'. -/
def pitchOrderUptoCard : Claim7 := { stood := { row := pitchOrderUptoRow, standIns := [], harness := (true, "7b0123ab3eec27915cb161c93ecd6793e6bce54466a119cb3cb1919107bd8572"), looks := false }, kinds := [], alts := [], laidByText := true, laidKinds := [.data, .data, .data, .data], laidTests := true, laidLooks := .later }
def PitchOrderUptoCardSaid : Prop := Claim7.holds Tryd.pinned (.plain (OpenSpec.upto pitchOrderSpec)) pitchOrderUptoCard

/-- THE SECOND FORM's CARD OF 'partitalaw02.PitchOctave'. -/
def pitchOctaveUptoCard : Claim7 := { stood := { row := pitchOctaveUptoRow, standIns := [], harness := (true, "7b0123ab3eec27915cb161c93ecd6793e6bce54466a119cb3cb1919107bd8572"), looks := false }, kinds := [], alts := [], laidByText := true, laidKinds := [.data, .data, .data, .data], laidTests := true, laidLooks := .later }
def PitchOctaveUptoCardSaid : Prop := Claim7.holds Tryd.pinned (.plain (OpenSpec.upto pitchOctaveSpec)) pitchOctaveUptoCard

/-- THE SECOND FORM's CARD OF 'partitalaw02.PitchNames'. -/
def pitchNamesUptoCard : Claim7 := { stood := { row := pitchNamesUptoRow, standIns := [], harness := (true, "7b0123ab3eec27915cb161c93ecd6793e6bce54466a119cb3cb1919107bd8572"), looks := false }, kinds := [], alts := [], laidByText := true, laidKinds := [.data, .data, .data, .data], laidTests := true, laidLooks := .later }
def PitchNamesUptoCardSaid : Prop := Claim7.holds Tryd.pinned (.plain (OpenSpec.upto pitchNamesSpec)) pitchNamesUptoCard

/-- THE SECOND FORM's CARD OF 'partitalaw02.PitchSigns'. -/
def pitchSignsUptoCard : Claim7 := { stood := { row := pitchSignsUptoRow, standIns := [], harness := (true, "7b0123ab3eec27915cb161c93ecd6793e6bce54466a119cb3cb1919107bd8572"), looks := false }, kinds := [], alts := [], laidByText := true, laidKinds := [.data, .data, .data, .data], laidTests := true, laidLooks := .later }
def PitchSignsUptoCardSaid : Prop := Claim7.holds Tryd.pinned (.plain (OpenSpec.upto pitchSignsSpec)) pitchSignsUptoCard
end Rows
end Go.Proofs.YtnpinngdiipogaaDoor
