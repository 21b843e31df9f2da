/-
  DERIVED. GIVEN WITH THE SEED: THE CARDS: each row of YtaanbojalolhnaaDoorRows.lean that lists a variable, with what it lists TIED to the program's text (the seventh form; the later family's looks); each row that meets fmt, with fmt's text TOLD by the authors' own Lean function (tested against real Go, not proved from fmt's source: count such statements apart). THE CARD IS WHAT COUNTS. Prove the row's statement (the work); the ties are given (YtaanbojalolhnaaDoorTie.lean); close each card by the builder's one call (the guide's Derived/Test/ToyasCard.lean, 'card_holds'). Laid BY PROGRAM, IN A SANDBOX (cutbox-door.mjs). By AI agents, Wed Nov 11 2026. No macro, syntax, notation, axiom, sorry.
-/
import Derived.Test.YtaanbojalolhnaaDoorRows
import GoSem.ClaimSeven
namespace Go.Proofs.YtaanbojalolhnaaDoor
namespace Rows

/-- THE TIED CARD OF 'partitalaw03.KeyTonics'. -/
def keyTonicsCard : Claim7 := { stood := { row := keyTonicsRow, standIns := [], harness := (true, "fe18a6c31c6b90d159580abd7b2cb9117539cf7295b5470e62b703e4d7fbaf10"), looks := false }, kinds := [], alts := [], laidByText := true, laidKinds := [.data], laidTests := true, laidLooks := .later }
def KeyTonicsCardSaid : Prop := Claim7.holds Tryd.pinned (.plain (OpenSpec.ofChange keyTonicsSpec)) keyTonicsCard

/-- THE TIED CARD OF 'partitalaw03.KeySpells'. -/
def keySpellsCard : Claim7 := { stood := { row := keySpellsRow, standIns := [], harness := (true, "fe18a6c31c6b90d159580abd7b2cb9117539cf7295b5470e62b703e4d7fbaf10"), looks := false }, kinds := [], alts := [], laidByText := true, laidKinds := [.data], laidTests := true, laidLooks := .later }
def KeySpellsCardSaid : Prop := Claim7.holds Tryd.pinned (.plain (OpenSpec.ofChange keySpellsSpec)) keySpellsCard

/-- THE SECOND FORM's CARD OF 'partitalaw03.KeyTonics'. -/
def keyTonicsUptoCard : Claim7 := { stood := { row := keyTonicsUptoRow, standIns := [], harness := (true, "fe18a6c31c6b90d159580abd7b2cb9117539cf7295b5470e62b703e4d7fbaf10"), looks := false }, kinds := [], alts := [], laidByText := true, laidKinds := [.data], laidTests := true, laidLooks := .later }
def KeyTonicsUptoCardSaid : Prop := Claim7.holds Tryd.pinned (.plain (OpenSpec.upto keyTonicsSpec)) keyTonicsUptoCard

/-- THE SECOND FORM's CARD OF 'partitalaw03.KeySpells'. -/
def keySpellsUptoCard : Claim7 := { stood := { row := keySpellsUptoRow, standIns := [], harness := (true, "fe18a6c31c6b90d159580abd7b2cb9117539cf7295b5470e62b703e4d7fbaf10"), looks := false }, kinds := [], alts := [], laidByText := true, laidKinds := [.data], laidTests := true, laidLooks := .later }
def KeySpellsUptoCardSaid : Prop := Claim7.holds Tryd.pinned (.plain (OpenSpec.upto keySpellsSpec)) keySpellsUptoCard
end Rows
end Go.Proofs.YtaanbojalolhnaaDoor
