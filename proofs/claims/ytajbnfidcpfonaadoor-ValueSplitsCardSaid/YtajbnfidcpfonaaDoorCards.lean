/-
  DERIVED. GIVEN WITH THE SEED: THE CARDS: each row of YtajbnfidcpfonaaDoorRows.lean that lists a variable, with what it lists TIED to the program's text (the seventh form; the later family's looks); each row that meets fmt, with fmt's text TOLD by the authors' own Lean function (tested against real Go, not proved from fmt's source: count such statements apart). THE CARD IS WHAT COUNTS. Prove the row's statement (the work); the ties are given (YtajbnfidcpfonaaDoorTie.lean); close each card by the builder's one call (the guide's Derived/Test/ToyasCard.lean, 'card_holds'). Laid BY PROGRAM, IN A SANDBOX (cutbox-door.mjs). By AI agents, Wed Nov 11 2026. No macro, syntax, notation, axiom, sorry.
-/
import Derived.Test.YtajbnfidcpfonaaDoorRows
import GoSem.ClaimSeven
namespace Go.Proofs.YtajbnfidcpfonaaDoor
namespace Rows

/-- THE TIED CARD OF 'partitalaw04.ValueFinds'. -/
def valueFindsCard : Claim7 := { stood := { row := valueFindsRow, standIns := [], harness := (true, "f2fbf5e9a7d43bdf0ddd988a3a061b988f36f36ab3aa2630c0f1666dc3fc69ba"), looks := true }, kinds := [], alts := [], laidByText := true, laidKinds := [.data, .data, .data, .data, .sentinel, .sentinel, .data, .data, .pinned], laidTests := true, laidLooks := .later }
def ValueFindsCardSaid : Prop := Claim7.holds Tryd.pinned (.plain (OpenSpec.ofChange valueFindsSpec)) valueFindsCard

/-- THE TIED CARD OF 'partitalaw04.ValueText'. -/
def valueTextCard : Claim7 := { stood := { row := valueTextRow, standIns := [], harness := (true, "f2fbf5e9a7d43bdf0ddd988a3a061b988f36f36ab3aa2630c0f1666dc3fc69ba"), looks := true }, kinds := [], alts := [], laidByText := true, laidKinds := [.data, .data, .data, .data, .sentinel, .sentinel, .data, .data, .pinned], laidTests := true, laidLooks := .later }
def ValueTextCardSaid : Prop := Claim7.holds Tryd.pinned (.plain (OpenSpec.ofChange valueTextSpec)) valueTextCard

/-- THE TIED CARD OF 'partitalaw04.ValueRefused'. -/
def valueRefusedCard : Claim7 := { stood := { row := valueRefusedRow, standIns := [], harness := (true, "f2fbf5e9a7d43bdf0ddd988a3a061b988f36f36ab3aa2630c0f1666dc3fc69ba"), looks := true }, kinds := [], alts := [], laidByText := true, laidKinds := [.data, .data, .data, .data, .sentinel, .sentinel, .data, .data, .pinned], laidTests := true, laidLooks := .later }
def ValueRefusedCardSaid : Prop := Claim7.holds Tryd.pinned (.plain (OpenSpec.ofChange valueRefusedSpec)) valueRefusedCard

/-- THE TIED CARD OF 'partitalaw04.ValueTuplets'. -/
def valueTupletsCard : Claim7 := { stood := { row := valueTupletsRow, standIns := [], harness := (true, "f2fbf5e9a7d43bdf0ddd988a3a061b988f36f36ab3aa2630c0f1666dc3fc69ba"), looks := true }, kinds := [], alts := [], laidByText := true, laidKinds := [.data, .data, .data, .data, .sentinel, .sentinel, .data, .data, .pinned], laidTests := true, laidLooks := .later }
def ValueTupletsCardSaid : Prop := Claim7.holds Tryd.pinned (.plain (OpenSpec.ofChange valueTupletsSpec)) valueTupletsCard

/-- THE TIED CARD OF 'partitalaw04.ValueSplits'. -/
def valueSplitsCard : Claim7 := { stood := { row := valueSplitsRow, standIns := [], harness := (true, "f2fbf5e9a7d43bdf0ddd988a3a061b988f36f36ab3aa2630c0f1666dc3fc69ba"), looks := true }, kinds := [], alts := [], laidByText := true, laidKinds := [.data, .data, .data, .data, .sentinel, .sentinel, .data, .data, .pinned], laidTests := true, laidLooks := .later }
def ValueSplitsCardSaid : Prop := Claim7.holds Tryd.pinned (.plain (OpenSpec.ofChange valueSplitsSpec)) valueSplitsCard

/-- THE TIED CARD OF 'partitalaw04.ValueHalves'. -/
def valueHalvesCard : Claim7 := { stood := { row := valueHalvesRow, standIns := [], harness := (true, "f2fbf5e9a7d43bdf0ddd988a3a061b988f36f36ab3aa2630c0f1666dc3fc69ba"), looks := true }, kinds := [], alts := [], laidByText := true, laidKinds := [.data, .data, .data, .data, .sentinel, .sentinel, .data, .data, .pinned], laidTests := true, laidLooks := .later }
def ValueHalvesCardSaid : Prop := Claim7.holds Tryd.pinned (.plain (OpenSpec.ofChange valueHalvesSpec)) valueHalvesCard

/-- THE TIED CARD OF 'partitalaw04.ValueGreedy'. -/
def valueGreedyCard : Claim7 := { stood := { row := valueGreedyRow, standIns := [], harness := (true, "f2fbf5e9a7d43bdf0ddd988a3a061b988f36f36ab3aa2630c0f1666dc3fc69ba"), looks := true }, kinds := [], alts := [], laidByText := true, laidKinds := [.data, .data, .data, .data, .sentinel, .sentinel, .data, .data, .pinned], laidTests := true, laidLooks := .later }
def ValueGreedyCardSaid : Prop := Claim7.holds Tryd.pinned (.plain (OpenSpec.ofChange valueGreedySpec)) valueGreedyCard

/-- THE SECOND FORM's CARD OF 'partitalaw04.ValueFinds'. -/
def valueFindsUptoCard : Claim7 := { stood := { row := valueFindsUptoRow, standIns := [], harness := (true, "f2fbf5e9a7d43bdf0ddd988a3a061b988f36f36ab3aa2630c0f1666dc3fc69ba"), looks := true }, kinds := [], alts := [], laidByText := true, laidKinds := [.data, .data, .data, .data, .sentinel, .sentinel, .data, .data, .pinned], laidTests := true, laidLooks := .later }
def ValueFindsUptoCardSaid : Prop := Claim7.holds Tryd.pinned (.plain (OpenSpec.upto valueFindsSpec)) valueFindsUptoCard

/-- THE SECOND FORM's CARD OF 'partitalaw04.ValueText'. -/
def valueTextUptoCard : Claim7 := { stood := { row := valueTextUptoRow, standIns := [], harness := (true, "f2fbf5e9a7d43bdf0ddd988a3a061b988f36f36ab3aa2630c0f1666dc3fc69ba"), looks := true }, kinds := [], alts := [], laidByText := true, laidKinds := [.data, .data, .data, .data, .sentinel, .sentinel, .data, .data, .pinned], laidTests := true, laidLooks := .later }
def ValueTextUptoCardSaid : Prop := Claim7.holds Tryd.pinned (.plain (OpenSpec.upto valueTextSpec)) valueTextUptoCard

/-- THE SECOND FORM's CARD OF 'partitalaw04.ValueRefused'. -/
def valueRefusedUptoCard : Claim7 := { stood := { row := valueRefusedUptoRow, standIns := [], harness := (true, "f2fbf5e9a7d43bdf0ddd988a3a061b988f36f36ab3aa2630c0f1666dc3fc69ba"), looks := true }, kinds := [], alts := [], laidByText := true, laidKinds := [.data, .data, .data, .data, .sentinel, .sentinel, .data, .data, .pinned], laidTests := true, laidLooks := .later }
def ValueRefusedUptoCardSaid : Prop := Claim7.holds Tryd.pinned (.plain (OpenSpec.upto valueRefusedSpec)) valueRefusedUptoCard

/-- THE SECOND FORM's CARD OF 'partitalaw04.ValueTuplets'. -/
def valueTupletsUptoCard : Claim7 := { stood := { row := valueTupletsUptoRow, standIns := [], harness := (true, "f2fbf5e9a7d43bdf0ddd988a3a061b988f36f36ab3aa2630c0f1666dc3fc69ba"), looks := true }, kinds := [], alts := [], laidByText := true, laidKinds := [.data, .data, .data, .data, .sentinel, .sentinel, .data, .data, .pinned], laidTests := true, laidLooks := .later }
def ValueTupletsUptoCardSaid : Prop := Claim7.holds Tryd.pinned (.plain (OpenSpec.upto valueTupletsSpec)) valueTupletsUptoCard

/-- THE SECOND FORM's CARD OF 'partitalaw04.ValueSplits'. -/
def valueSplitsUptoCard : Claim7 := { stood := { row := valueSplitsUptoRow, standIns := [], harness := (true, "f2fbf5e9a7d43bdf0ddd988a3a061b988f36f36ab3aa2630c0f1666dc3fc69ba"), looks := true }, kinds := [], alts := [], laidByText := true, laidKinds := [.data, .data, .data, .data, .sentinel, .sentinel, .data, .data, .pinned], laidTests := true, laidLooks := .later }
def ValueSplitsUptoCardSaid : Prop := Claim7.holds Tryd.pinned (.plain (OpenSpec.upto valueSplitsSpec)) valueSplitsUptoCard

/-- THE SECOND FORM's CARD OF 'partitalaw04.ValueHalves'. -/
def valueHalvesUptoCard : Claim7 := { stood := { row := valueHalvesUptoRow, standIns := [], harness := (true, "f2fbf5e9a7d43bdf0ddd988a3a061b988f36f36ab3aa2630c0f1666dc3fc69ba"), looks := true }, kinds := [], alts := [], laidByText := true, laidKinds := [.data, .data, .data, .data, .sentinel, .sentinel, .data, .data, .pinned], laidTests := true, laidLooks := .later }
def ValueHalvesUptoCardSaid : Prop := Claim7.holds Tryd.pinned (.plain (OpenSpec.upto valueHalvesSpec)) valueHalvesUptoCard

/-- THE SECOND FORM's CARD OF 'partitalaw04.ValueGreedy'. -/
def valueGreedyUptoCard : Claim7 := { stood := { row := valueGreedyUptoRow, standIns := [], harness := (true, "f2fbf5e9a7d43bdf0ddd988a3a061b988f36f36ab3aa2630c0f1666dc3fc69ba"), looks := true }, kinds := [], alts := [], laidByText := true, laidKinds := [.data, .data, .data, .data, .sentinel, .sentinel, .data, .data, .pinned], laidTests := true, laidLooks := .later }
def ValueGreedyUptoCardSaid : Prop := Claim7.holds Tryd.pinned (.plain (OpenSpec.upto valueGreedySpec)) valueGreedyUptoCard
end Rows
end Go.Proofs.YtajbnfidcpfonaaDoor
