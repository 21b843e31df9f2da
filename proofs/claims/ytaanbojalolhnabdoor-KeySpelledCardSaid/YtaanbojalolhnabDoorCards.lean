/-
  DERIVED. GIVEN WITH THE SEED: THE CARDS: each row of YtaanbojalolhnabDoorRows.lean that lists a variable, with what it lists TIED to the program's text (the seventh form; the later family's looks); each row that meets fmt, with fmt's text TOLD by the authors' own Lean function (tested against real Go, not proved from fmt's source: count such statements apart). THE CARD IS WHAT COUNTS. Prove the row's statement (the work); the ties are given (YtaanbojalolhnabDoorTie.lean); close each card by the builder's one call (the guide's Derived/Test/ToyasCard.lean, 'card_holds'). Laid BY PROGRAM, IN A SANDBOX (cutbox-door.mjs). By AI agents, Wed Nov 11 2026. No macro, syntax, notation, axiom, sorry.
-/
import Derived.Test.YtaanbojalolhnabDoorRows
import GoSem.ClaimSeven
namespace Go.Proofs.YtaanbojalolhnabDoor
namespace Rows

/-- THE TIED CARD OF 'partitalaw03.KeySpelled'. -/
def keySpelledCard : Claim7 := { stood := { row := keySpelledRow, standIns := [], harness := (true, "4a62b345da114e6e7d464a687a5e5e5aee9c4da31cca6912a6d2c675a26c86d6"), looks := false }, kinds := [], alts := [], laidByText := true, laidKinds := [.data], laidTests := true, laidLooks := .later }
def KeySpelledCardSaid : Prop := Claim7.holds Tryd.pinned (.plain (OpenSpec.ofChange keySpelledSpec)) keySpelledCard

/-- THE TIED CARD OF 'partitalaw03.KeyScaleSpells'. -/
def keyScaleSpellsCard : Claim7 := { stood := { row := keyScaleSpellsRow, standIns := [], harness := (true, "4a62b345da114e6e7d464a687a5e5e5aee9c4da31cca6912a6d2c675a26c86d6"), looks := false }, kinds := [], alts := [], laidByText := true, laidKinds := [.data], laidTests := true, laidLooks := .later }
def KeyScaleSpellsCardSaid : Prop := Claim7.holds Tryd.pinned (.plain (OpenSpec.ofChange keyScaleSpellsSpec)) keyScaleSpellsCard

/-- THE SECOND FORM's CARD OF 'partitalaw03.KeySpelled'. -/
def keySpelledUptoCard : Claim7 := { stood := { row := keySpelledUptoRow, standIns := [], harness := (true, "4a62b345da114e6e7d464a687a5e5e5aee9c4da31cca6912a6d2c675a26c86d6"), looks := false }, kinds := [], alts := [], laidByText := true, laidKinds := [.data], laidTests := true, laidLooks := .later }
def KeySpelledUptoCardSaid : Prop := Claim7.holds Tryd.pinned (.plain (OpenSpec.upto keySpelledSpec)) keySpelledUptoCard

/-- THE SECOND FORM's CARD OF 'partitalaw03.KeyScaleSpells'. -/
def keyScaleSpellsUptoCard : Claim7 := { stood := { row := keyScaleSpellsUptoRow, standIns := [], harness := (true, "4a62b345da114e6e7d464a687a5e5e5aee9c4da31cca6912a6d2c675a26c86d6"), looks := false }, kinds := [], alts := [], laidByText := true, laidKinds := [.data], laidTests := true, laidLooks := .later }
def KeyScaleSpellsUptoCardSaid : Prop := Claim7.holds Tryd.pinned (.plain (OpenSpec.upto keyScaleSpellsSpec)) keyScaleSpellsUptoCard
end Rows
end Go.Proofs.YtaanbojalolhnabDoor
