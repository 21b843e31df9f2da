/-
  DERIVED. GIVEN WITH THE SEED: THE CARDS: each row of YtphlamnaaogmaaaGreatDoorRows.lean that lists a variable, with what it lists TIED to the program's text (the seventh form; the later family's looks); each row that meets fmt, with fmt's text TOLD by the authors' own Lean function (tested against real Go, not proved from fmt's source: count such statements apart). THE CARD IS WHAT COUNTS. Prove the row's statement (the work); the ties are given (YtphlamnaaogmaaaGreatDoorTie.lean); close each card by the builder's one call (the guide's Derived/Test/ToyasCard.lean, 'card_holds'). Laid BY PROGRAM, IN A SANDBOX (cutbox-door.mjs). By AI agents, Wed Nov 11 2026. No macro, syntax, notation, axiom, sorry.
-/
import Derived.Test.YtphlamnaaogmaaaGreatDoorRows
import GoSem.ClaimSeven
namespace Go.Proofs.YtphlamnaaogmaaaGreatDoor
namespace Rows

/-- THE TIED CARD OF 'partitalaw20.ElemTells'. -/
def elemTellsCard : Claim7 := { stood := { row := elemTellsRow, standIns := [], harness := (true, "b9debb3cb8c4b11ab4ee14601a80ec4f3a9a9851ffbe81a93912f7cbd203a8de"), looks := true }, kinds := [], alts := [], laidByText := true, laidKinds := [.data, .data, .data, .data, .sentinel, .sentinel, .pinned], laidTests := true, laidLooks := .later }
def ElemTellsCardSaid : Prop := Claim7.holds Tryz.pinned (.plain (OpenSpec.ofChange elemTellsSpec)) elemTellsCard

/-- THE TIED CARD OF 'partitalaw20.ElemBack'. -/
def elemBackCard : Claim7 := { stood := { row := elemBackRow, standIns := [], harness := (true, "b9debb3cb8c4b11ab4ee14601a80ec4f3a9a9851ffbe81a93912f7cbd203a8de"), looks := true }, kinds := [], alts := [], laidByText := true, laidKinds := [.data, .data, .data, .data, .sentinel, .sentinel, .pinned], laidTests := true, laidLooks := .later }
def ElemBackCardSaid : Prop := Claim7.holds Tryz.pinned (.plain (OpenSpec.ofChange elemBackSpec)) elemBackCard

/-- THE TIED CARD OF 'partitalaw20.ElemForms'. -/
def elemFormsCard : Claim7 := { stood := { row := elemFormsRow, standIns := [], harness := (true, "b9debb3cb8c4b11ab4ee14601a80ec4f3a9a9851ffbe81a93912f7cbd203a8de"), looks := true }, kinds := [], alts := [], laidByText := true, laidKinds := [.data, .data, .data, .data, .sentinel, .sentinel, .pinned], laidTests := true, laidLooks := .later }
def ElemFormsCardSaid : Prop := Claim7.holds Tryz.pinned (.plain (OpenSpec.ofChange elemFormsSpec)) elemFormsCard

/-- THE TIED CARD OF 'partitalaw20.ElemCuts'. -/
def elemCutsCard : Claim7 := { stood := { row := elemCutsRow, standIns := [], harness := (true, "b9debb3cb8c4b11ab4ee14601a80ec4f3a9a9851ffbe81a93912f7cbd203a8de"), looks := true }, kinds := [], alts := [], laidByText := true, laidKinds := [.data, .data, .data, .data, .sentinel, .sentinel, .pinned], laidTests := true, laidLooks := .later }
def ElemCutsCardSaid : Prop := Claim7.holds Tryz.pinned (.plain (OpenSpec.ofChange elemCutsSpec)) elemCutsCard

/-- THE TIED CARD OF 'partitalaw20.ElemBlanks'. -/
def elemBlanksCard : Claim7 := { stood := { row := elemBlanksRow, standIns := [], harness := (true, "b9debb3cb8c4b11ab4ee14601a80ec4f3a9a9851ffbe81a93912f7cbd203a8de"), looks := true }, kinds := [], alts := [], laidByText := true, laidKinds := [.data, .data, .data, .data, .sentinel, .sentinel, .pinned], laidTests := true, laidLooks := .later }
def ElemBlanksCardSaid : Prop := Claim7.holds Tryz.pinned (.plain (OpenSpec.ofChange elemBlanksSpec)) elemBlanksCard

/-- THE TIED CARD OF 'partitalaw20.ElemSigns'. -/
def elemSignsCard : Claim7 := { stood := { row := elemSignsRow, standIns := [], harness := (true, "b9debb3cb8c4b11ab4ee14601a80ec4f3a9a9851ffbe81a93912f7cbd203a8de"), looks := true }, kinds := [], alts := [], laidByText := true, laidKinds := [.data, .data, .data, .data, .sentinel, .sentinel, .pinned], laidTests := true, laidLooks := .later }
def ElemSignsCardSaid : Prop := Claim7.holds Tryz.pinned (.plain (OpenSpec.ofChange elemSignsSpec)) elemSignsCard

/-- THE TIED CARD OF 'partitalaw20.ElemDeep'. -/
def elemDeepCard : Claim7 := { stood := { row := elemDeepRow, standIns := [], harness := (true, "b9debb3cb8c4b11ab4ee14601a80ec4f3a9a9851ffbe81a93912f7cbd203a8de"), looks := true }, kinds := [], alts := [], laidByText := true, laidKinds := [.data, .data, .data, .data, .sentinel, .sentinel, .pinned], laidTests := true, laidLooks := .later }
def ElemDeepCardSaid : Prop := Claim7.holds Tryz.pinned (.plain (OpenSpec.ofChange elemDeepSpec)) elemDeepCard

/-- THE TIED CARD OF 'partitalaw20.ElemFind'. -/
def elemFindCard : Claim7 := { stood := { row := elemFindRow, standIns := [], harness := (true, "b9debb3cb8c4b11ab4ee14601a80ec4f3a9a9851ffbe81a93912f7cbd203a8de"), looks := true }, kinds := [], alts := [], laidByText := true, laidKinds := [.data, .data, .data, .data, .sentinel, .sentinel, .pinned], laidTests := true, laidLooks := .later }
def ElemFindCardSaid : Prop := Claim7.holds Tryz.pinned (.plain (OpenSpec.ofChange elemFindSpec)) elemFindCard

/-- THE SECOND FORM's CARD OF 'partitalaw20.ElemTells'. -/
def elemTellsUptoCard : Claim7 := { stood := { row := elemTellsUptoRow, standIns := [], harness := (true, "b9debb3cb8c4b11ab4ee14601a80ec4f3a9a9851ffbe81a93912f7cbd203a8de"), looks := true }, kinds := [], alts := [], laidByText := true, laidKinds := [.data, .data, .data, .data, .sentinel, .sentinel, .pinned], laidTests := true, laidLooks := .later }
def ElemTellsUptoCardSaid : Prop := Claim7.holds Tryz.pinned (.plain (OpenSpec.upto elemTellsSpec)) elemTellsUptoCard

/-- THE SECOND FORM's CARD OF 'partitalaw20.ElemBack'. -/
def elemBackUptoCard : Claim7 := { stood := { row := elemBackUptoRow, standIns := [], harness := (true, "b9debb3cb8c4b11ab4ee14601a80ec4f3a9a9851ffbe81a93912f7cbd203a8de"), looks := true }, kinds := [], alts := [], laidByText := true, laidKinds := [.data, .data, .data, .data, .sentinel, .sentinel, .pinned], laidTests := true, laidLooks := .later }
def ElemBackUptoCardSaid : Prop := Claim7.holds Tryz.pinned (.plain (OpenSpec.upto elemBackSpec)) elemBackUptoCard

/-- THE SECOND FORM's CARD OF 'partitalaw20.ElemForms'. -/
def elemFormsUptoCard : Claim7 := { stood := { row := elemFormsUptoRow, standIns := [], harness := (true, "b9debb3cb8c4b11ab4ee14601a80ec4f3a9a9851ffbe81a93912f7cbd203a8de"), looks := true }, kinds := [], alts := [], laidByText := true, laidKinds := [.data, .data, .data, .data, .sentinel, .sentinel, .pinned], laidTests := true, laidLooks := .later }
def ElemFormsUptoCardSaid : Prop := Claim7.holds Tryz.pinned (.plain (OpenSpec.upto elemFormsSpec)) elemFormsUptoCard

/-- THE SECOND FORM's CARD OF 'partitalaw20.ElemCuts'. -/
def elemCutsUptoCard : Claim7 := { stood := { row := elemCutsUptoRow, standIns := [], harness := (true, "b9debb3cb8c4b11ab4ee14601a80ec4f3a9a9851ffbe81a93912f7cbd203a8de"), looks := true }, kinds := [], alts := [], laidByText := true, laidKinds := [.data, .data, .data, .data, .sentinel, .sentinel, .pinned], laidTests := true, laidLooks := .later }
def ElemCutsUptoCardSaid : Prop := Claim7.holds Tryz.pinned (.plain (OpenSpec.upto elemCutsSpec)) elemCutsUptoCard

/-- THE SECOND FORM's CARD OF 'partitalaw20.ElemBlanks'. -/
def elemBlanksUptoCard : Claim7 := { stood := { row := elemBlanksUptoRow, standIns := [], harness := (true, "b9debb3cb8c4b11ab4ee14601a80ec4f3a9a9851ffbe81a93912f7cbd203a8de"), looks := true }, kinds := [], alts := [], laidByText := true, laidKinds := [.data, .data, .data, .data, .sentinel, .sentinel, .pinned], laidTests := true, laidLooks := .later }
def ElemBlanksUptoCardSaid : Prop := Claim7.holds Tryz.pinned (.plain (OpenSpec.upto elemBlanksSpec)) elemBlanksUptoCard

/-- THE SECOND FORM's CARD OF 'partitalaw20.ElemSigns'. -/
def elemSignsUptoCard : Claim7 := { stood := { row := elemSignsUptoRow, standIns := [], harness := (true, "b9debb3cb8c4b11ab4ee14601a80ec4f3a9a9851ffbe81a93912f7cbd203a8de"), looks := true }, kinds := [], alts := [], laidByText := true, laidKinds := [.data, .data, .data, .data, .sentinel, .sentinel, .pinned], laidTests := true, laidLooks := .later }
def ElemSignsUptoCardSaid : Prop := Claim7.holds Tryz.pinned (.plain (OpenSpec.upto elemSignsSpec)) elemSignsUptoCard

/-- THE SECOND FORM's CARD OF 'partitalaw20.ElemDeep'. -/
def elemDeepUptoCard : Claim7 := { stood := { row := elemDeepUptoRow, standIns := [], harness := (true, "b9debb3cb8c4b11ab4ee14601a80ec4f3a9a9851ffbe81a93912f7cbd203a8de"), looks := true }, kinds := [], alts := [], laidByText := true, laidKinds := [.data, .data, .data, .data, .sentinel, .sentinel, .pinned], laidTests := true, laidLooks := .later }
def ElemDeepUptoCardSaid : Prop := Claim7.holds Tryz.pinned (.plain (OpenSpec.upto elemDeepSpec)) elemDeepUptoCard

/-- THE SECOND FORM's CARD OF 'partitalaw20.ElemFind'. -/
def elemFindUptoCard : Claim7 := { stood := { row := elemFindUptoRow, standIns := [], harness := (true, "b9debb3cb8c4b11ab4ee14601a80ec4f3a9a9851ffbe81a93912f7cbd203a8de"), looks := true }, kinds := [], alts := [], laidByText := true, laidKinds := [.data, .data, .data, .data, .sentinel, .sentinel, .pinned], laidTests := true, laidLooks := .later }
def ElemFindUptoCardSaid : Prop := Claim7.holds Tryz.pinned (.plain (OpenSpec.upto elemFindSpec)) elemFindUptoCard
end Rows
end Go.Proofs.YtphlamnaaogmaaaGreatDoor
