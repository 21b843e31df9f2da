/-
  DERIVED. GIVEN WITH THE SEED: THE CARDS: each row of YtofolkbappinhaaDoorRows.lean that lists a variable, with what it lists TIED to the program's text (the seventh form; the later family's looks); each row that meets fmt, with fmt's text TOLD by the authors' own Lean function (tested against real Go, not proved from fmt's source: count such statements apart). THE CARD IS WHAT COUNTS. Prove the row's statement (the work); the ties are given (YtofolkbappinhaaDoorTie.lean); close each card by the builder's one call (the guide's Derived/Test/ToyasCard.lean, 'card_holds'). Laid BY PROGRAM, IN A SANDBOX (cutbox-door.mjs). By AI agents, Wed Nov 11 2026. No macro, syntax, notation, axiom, sorry.
-/
import Derived.Test.YtofolkbappinhaaDoorRows
import GoSem.ClaimSeven
namespace Go.Proofs.YtofolkbappinhaaDoor
namespace Rows

/-- THE TIED CARD OF 'partitalaw01.RatioTells'. -/
def ratioTellsCard : Claim7 := { stood := { row := ratioTellsRow, standIns := [], harness := (true, "2c7ca485f743aa18da1289160def613fe9362d5b61de3d763dec9ec2ae55446a"), looks := true }, kinds := [], alts := [], laidByText := true, laidKinds := [.data, .data, .data, .sentinel, .sentinel], laidTests := true, laidLooks := .later }
def RatioTellsCardSaid : Prop := Claim7.holds Tryd.pinned (.plain (OpenSpec.ofChange ratioTellsSpec)) ratioTellsCard

/-- THE TIED CARD OF 'partitalaw01.RatioLowest'. -/
def ratioLowestCard : Claim7 := { stood := { row := ratioLowestRow, standIns := [], harness := (true, "2c7ca485f743aa18da1289160def613fe9362d5b61de3d763dec9ec2ae55446a"), looks := true }, kinds := [], alts := [], laidByText := true, laidKinds := [.data, .data, .data, .sentinel, .sentinel], laidTests := true, laidLooks := .later }
def RatioLowestCardSaid : Prop := Claim7.holds Tryd.pinned (.plain (OpenSpec.ofChange ratioLowestSpec)) ratioLowestCard

/-- THE TIED CARD OF 'partitalaw01.RatioTurns'. -/
def ratioTurnsCard : Claim7 := { stood := { row := ratioTurnsRow, standIns := [], harness := (true, "2c7ca485f743aa18da1289160def613fe9362d5b61de3d763dec9ec2ae55446a"), looks := true }, kinds := [], alts := [], laidByText := true, laidKinds := [.data, .data, .data, .sentinel, .sentinel], laidTests := true, laidLooks := .later }
def RatioTurnsCardSaid : Prop := Claim7.holds Tryd.pinned (.plain (OpenSpec.ofChange ratioTurnsSpec)) ratioTurnsCard

/-- THE TIED CARD OF 'partitalaw01.RatioBack'. -/
def ratioBackCard : Claim7 := { stood := { row := ratioBackRow, standIns := [], harness := (true, "2c7ca485f743aa18da1289160def613fe9362d5b61de3d763dec9ec2ae55446a"), looks := true }, kinds := [], alts := [], laidByText := true, laidKinds := [.data, .data, .data, .sentinel, .sentinel], laidTests := true, laidLooks := .later }
def RatioBackCardSaid : Prop := Claim7.holds Tryd.pinned (.plain (OpenSpec.ofChange ratioBackSpec)) ratioBackCard

/-- THE TIED CARD OF 'partitalaw01.RatioOrder'. -/
def ratioOrderCard : Claim7 := { stood := { row := ratioOrderRow, standIns := [], harness := (true, "2c7ca485f743aa18da1289160def613fe9362d5b61de3d763dec9ec2ae55446a"), looks := true }, kinds := [], alts := [], laidByText := true, laidKinds := [.data, .data, .data, .sentinel, .sentinel], laidTests := true, laidLooks := .later }
def RatioOrderCardSaid : Prop := Claim7.holds Tryd.pinned (.plain (OpenSpec.ofChange ratioOrderSpec)) ratioOrderCard

/-- THE TIED CARD OF 'partitalaw01.RatioFloor'. -/
def ratioFloorCard : Claim7 := { stood := { row := ratioFloorRow, standIns := [], harness := (true, "2c7ca485f743aa18da1289160def613fe9362d5b61de3d763dec9ec2ae55446a"), looks := true }, kinds := [], alts := [], laidByText := true, laidKinds := [.data, .data, .data, .sentinel, .sentinel], laidTests := true, laidLooks := .later }
def RatioFloorCardSaid : Prop := Claim7.holds Tryd.pinned (.plain (OpenSpec.ofChange ratioFloorSpec)) ratioFloorCard

/-- THE TIED CARD OF 'partitalaw01.RatioText'. -/
def ratioTextCard : Claim7 := { stood := { row := ratioTextRow, standIns := [], harness := (true, "2c7ca485f743aa18da1289160def613fe9362d5b61de3d763dec9ec2ae55446a"), looks := true }, kinds := [], alts := [], laidByText := true, laidKinds := [.data, .data, .data, .sentinel, .sentinel], laidTests := true, laidLooks := .later }
def RatioTextCardSaid : Prop := Claim7.holds Tryd.pinned (.plain (OpenSpec.ofChange ratioTextSpec)) ratioTextCard

/-- THE TIED CARD OF 'partitalaw01.RatioRefused'. -/
def ratioRefusedCard : Claim7 := { stood := { row := ratioRefusedRow, standIns := [], harness := (true, "2c7ca485f743aa18da1289160def613fe9362d5b61de3d763dec9ec2ae55446a"), looks := true }, kinds := [], alts := [], laidByText := true, laidKinds := [.data, .data, .data, .sentinel, .sentinel], laidTests := true, laidLooks := .later }
def RatioRefusedCardSaid : Prop := Claim7.holds Tryd.pinned (.plain (OpenSpec.ofChange ratioRefusedSpec)) ratioRefusedCard

/-- THE SECOND FORM's CARD OF 'partitalaw01.RatioTells'. -/
def ratioTellsUptoCard : Claim7 := { stood := { row := ratioTellsUptoRow, standIns := [], harness := (true, "2c7ca485f743aa18da1289160def613fe9362d5b61de3d763dec9ec2ae55446a"), looks := true }, kinds := [], alts := [], laidByText := true, laidKinds := [.data, .data, .data, .sentinel, .sentinel], laidTests := true, laidLooks := .later }
def RatioTellsUptoCardSaid : Prop := Claim7.holds Tryd.pinned (.plain (OpenSpec.upto ratioTellsSpec)) ratioTellsUptoCard

/-- THE SECOND FORM's CARD OF 'partitalaw01.RatioLowest'. -/
def ratioLowestUptoCard : Claim7 := { stood := { row := ratioLowestUptoRow, standIns := [], harness := (true, "2c7ca485f743aa18da1289160def613fe9362d5b61de3d763dec9ec2ae55446a"), looks := true }, kinds := [], alts := [], laidByText := true, laidKinds := [.data, .data, .data, .sentinel, .sentinel], laidTests := true, laidLooks := .later }
def RatioLowestUptoCardSaid : Prop := Claim7.holds Tryd.pinned (.plain (OpenSpec.upto ratioLowestSpec)) ratioLowestUptoCard

/-- THE SECOND FORM's CARD OF 'partitalaw01.RatioTurns'. -/
def ratioTurnsUptoCard : Claim7 := { stood := { row := ratioTurnsUptoRow, standIns := [], harness := (true, "2c7ca485f743aa18da1289160def613fe9362d5b61de3d763dec9ec2ae55446a"), looks := true }, kinds := [], alts := [], laidByText := true, laidKinds := [.data, .data, .data, .sentinel, .sentinel], laidTests := true, laidLooks := .later }
def RatioTurnsUptoCardSaid : Prop := Claim7.holds Tryd.pinned (.plain (OpenSpec.upto ratioTurnsSpec)) ratioTurnsUptoCard

/-- THE SECOND FORM's CARD OF 'partitalaw01.RatioBack'. -/
def ratioBackUptoCard : Claim7 := { stood := { row := ratioBackUptoRow, standIns := [], harness := (true, "2c7ca485f743aa18da1289160def613fe9362d5b61de3d763dec9ec2ae55446a"), looks := true }, kinds := [], alts := [], laidByText := true, laidKinds := [.data, .data, .data, .sentinel, .sentinel], laidTests := true, laidLooks := .later }
def RatioBackUptoCardSaid : Prop := Claim7.holds Tryd.pinned (.plain (OpenSpec.upto ratioBackSpec)) ratioBackUptoCard

/-- THE SECOND FORM's CARD OF 'partitalaw01.RatioOrder'. -/
def ratioOrderUptoCard : Claim7 := { stood := { row := ratioOrderUptoRow, standIns := [], harness := (true, "2c7ca485f743aa18da1289160def613fe9362d5b61de3d763dec9ec2ae55446a"), looks := true }, kinds := [], alts := [], laidByText := true, laidKinds := [.data, .data, .data, .sentinel, .sentinel], laidTests := true, laidLooks := .later }
def RatioOrderUptoCardSaid : Prop := Claim7.holds Tryd.pinned (.plain (OpenSpec.upto ratioOrderSpec)) ratioOrderUptoCard

/-- THE SECOND FORM's CARD OF 'partitalaw01.RatioFloor'. -/
def ratioFloorUptoCard : Claim7 := { stood := { row := ratioFloorUptoRow, standIns := [], harness := (true, "2c7ca485f743aa18da1289160def613fe9362d5b61de3d763dec9ec2ae55446a"), looks := true }, kinds := [], alts := [], laidByText := true, laidKinds := [.data, .data, .data, .sentinel, .sentinel], laidTests := true, laidLooks := .later }
def RatioFloorUptoCardSaid : Prop := Claim7.holds Tryd.pinned (.plain (OpenSpec.upto ratioFloorSpec)) ratioFloorUptoCard

/-- THE SECOND FORM's CARD OF 'partitalaw01.RatioText'. -/
def ratioTextUptoCard : Claim7 := { stood := { row := ratioTextUptoRow, standIns := [], harness := (true, "2c7ca485f743aa18da1289160def613fe9362d5b61de3d763dec9ec2ae55446a"), looks := true }, kinds := [], alts := [], laidByText := true, laidKinds := [.data, .data, .data, .sentinel, .sentinel], laidTests := true, laidLooks := .later }
def RatioTextUptoCardSaid : Prop := Claim7.holds Tryd.pinned (.plain (OpenSpec.upto ratioTextSpec)) ratioTextUptoCard

/-- THE SECOND FORM's CARD OF 'partitalaw01.RatioRefused'. -/
def ratioRefusedUptoCard : Claim7 := { stood := { row := ratioRefusedUptoRow, standIns := [], harness := (true, "2c7ca485f743aa18da1289160def613fe9362d5b61de3d763dec9ec2ae55446a"), looks := true }, kinds := [], alts := [], laidByText := true, laidKinds := [.data, .data, .data, .sentinel, .sentinel], laidTests := true, laidLooks := .later }
def RatioRefusedUptoCardSaid : Prop := Claim7.holds Tryd.pinned (.plain (OpenSpec.upto ratioRefusedSpec)) ratioRefusedUptoCard
end Rows
end Go.Proofs.YtofolkbappinhaaDoor
