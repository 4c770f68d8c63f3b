/-
  DERIVED. GIVEN WITH THE SEED: THE CARDS: each row of YtkhhhceeoljheaaGreatDoorRows.lean that lists a variable, with what it lists TIED to the program's text (the seventh form; the later family's looks); each row that meets fmt, with fmt's text TOLD by the authors' own Lean function (tested against real Go, not proved from fmt's source: count such statements apart). THE CARD IS WHAT COUNTS. Prove the row's statement (the work); the ties are given (YtkhhhceeoljheaaGreatDoorTie.lean); close each card by the builder's one call (the guide's Derived/Test/ToyasCard.lean, 'card_holds'). Laid BY PROGRAM, IN A SANDBOX (cutbox-door.mjs). By AI agents, Wed Nov 11 2026. No macro, syntax, notation, axiom, sorry.
-/
import Derived.Test.YtkhhhceeoljheaaGreatDoorRows
import GoSem.ClaimSeven
namespace Go.Proofs.YtkhhhceeoljheaaGreatDoor
namespace Rows

/-- THE TIED CARD OF 'bodkinlaw07.ScalarTraps'. -/
def scalarTrapsCard : Claim7 := { stood := { row := scalarTrapsRow, standIns := [], harness := (true, "fa5aee3c77bfb3097dcb111a2bb398dba2e9c84b769d969d05949d2770fd6638"), looks := false }, kinds := [], alts := [], laidByText := true, laidKinds := [.data, .data, .listed, .data, .data, .pinned], laidTests := true, laidLooks := .later }
def ScalarTrapsCardSaid : Prop := Claim7.holds Tryz.pinned (.plain (OpenSpec.ofChange scalarTrapsSpec)) scalarTrapsCard

/-- THE TIED CARD OF 'bodkinlaw07.ScalarDo'. -/
def scalarDoCard : Claim7 := { stood := { row := scalarDoRow, standIns := [], harness := (true, "fa5aee3c77bfb3097dcb111a2bb398dba2e9c84b769d969d05949d2770fd6638"), looks := false }, kinds := [], alts := [], laidByText := true, laidKinds := [.data, .data, .listed, .data, .data, .pinned], laidTests := true, laidLooks := .later }
def ScalarDoCardSaid : Prop := Claim7.holds Tryz.pinned (.plain (OpenSpec.ofChange scalarDoSpec)) scalarDoCard

/-- THE TIED CARD OF 'bodkinlaw07.ScalarAll'. -/
def scalarAllCard : Claim7 := { stood := { row := scalarAllRow, standIns := [], harness := (true, "fa5aee3c77bfb3097dcb111a2bb398dba2e9c84b769d969d05949d2770fd6638"), looks := false }, kinds := [], alts := [], laidByText := true, laidKinds := [.data, .data, .listed, .data, .data, .pinned], laidTests := true, laidLooks := .later }
def ScalarAllCardSaid : Prop := Claim7.holds Tryz.pinned (.plain (OpenSpec.ofChange scalarAllSpec)) scalarAllCard

/-- THE TIED CARD OF 'bodkinlaw07.ScalarWords'. -/
def scalarWordsCard : Claim7 := { stood := { row := scalarWordsRow, standIns := [], harness := (true, "fa5aee3c77bfb3097dcb111a2bb398dba2e9c84b769d969d05949d2770fd6638"), looks := false }, kinds := [], alts := [], laidByText := true, laidKinds := [.data, .data, .listed, .data, .data, .pinned], laidTests := true, laidLooks := .later }
def ScalarWordsCardSaid : Prop := Claim7.holds Tryz.pinned (.plain (OpenSpec.ofChange scalarWordsSpec)) scalarWordsCard

/-- THE TIED CARD OF 'bodkinlaw07.ScalarLongs'. -/
def scalarLongsCard : Claim7 := { stood := { row := scalarLongsRow, standIns := [], harness := (true, "fa5aee3c77bfb3097dcb111a2bb398dba2e9c84b769d969d05949d2770fd6638"), looks := false }, kinds := [], alts := [], laidByText := true, laidKinds := [.data, .data, .listed, .data, .data, .pinned], laidTests := true, laidLooks := .later }
def ScalarLongsCardSaid : Prop := Claim7.holds Tryz.pinned (.plain (OpenSpec.ofChange scalarLongsSpec)) scalarLongsCard

/-- THE TIED CARD OF 'bodkinlaw07.ScalarStand'. -/
def scalarStandCard : Claim7 := { stood := { row := scalarStandRow, standIns := [], harness := (true, "fa5aee3c77bfb3097dcb111a2bb398dba2e9c84b769d969d05949d2770fd6638"), looks := false }, kinds := [], alts := [], laidByText := true, laidKinds := [.data, .data, .listed, .data, .data, .pinned], laidTests := true, laidLooks := .later }
def ScalarStandCardSaid : Prop := Claim7.holds Tryz.pinned (.plain (OpenSpec.ofChange scalarStandSpec)) scalarStandCard

/-- THE TIED CARD OF 'bodkinlaw07.ScalarFloats'. -/
def scalarFloatsCard : Claim7 := { stood := { row := scalarFloatsRow, standIns := [], harness := (true, "fa5aee3c77bfb3097dcb111a2bb398dba2e9c84b769d969d05949d2770fd6638"), looks := false }, kinds := [], alts := [], laidByText := true, laidKinds := [.data, .data, .listed, .data, .data, .pinned], laidTests := true, laidLooks := .later }
def ScalarFloatsCardSaid : Prop := Claim7.holds Tryz.pinned (.plain (OpenSpec.ofChange scalarFloatsSpec)) scalarFloatsCard

/-- THE TIED CARD OF 'bodkinlaw07.ScalarTurns'. -/
def scalarTurnsCard : Claim7 := { stood := { row := scalarTurnsRow, standIns := [], harness := (true, "fa5aee3c77bfb3097dcb111a2bb398dba2e9c84b769d969d05949d2770fd6638"), looks := false }, kinds := [], alts := [], laidByText := true, laidKinds := [.data, .data, .listed, .data, .data, .pinned], laidTests := true, laidLooks := .later }
def ScalarTurnsCardSaid : Prop := Claim7.holds Tryz.pinned (.plain (OpenSpec.ofChange scalarTurnsSpec)) scalarTurnsCard

/-- THE TIED CARD OF 'bodkinlaw07.ScalarHeld'. -/
def scalarHeldCard : Claim7 := { stood := { row := scalarHeldRow, standIns := [], harness := (true, "fa5aee3c77bfb3097dcb111a2bb398dba2e9c84b769d969d05949d2770fd6638"), looks := false }, kinds := [], alts := [], laidByText := true, laidKinds := [.data, .data, .listed, .data, .data, .pinned], laidTests := true, laidLooks := .later }
def ScalarHeldCardSaid : Prop := Claim7.holds Tryz.pinned (.plain (OpenSpec.ofChange scalarHeldSpec)) scalarHeldCard

/-- THE SECOND FORM's CARD OF 'bodkinlaw07.ScalarTraps'. -/
def scalarTrapsUptoCard : Claim7 := { stood := { row := scalarTrapsUptoRow, standIns := [], harness := (true, "fa5aee3c77bfb3097dcb111a2bb398dba2e9c84b769d969d05949d2770fd6638"), looks := false }, kinds := [], alts := [], laidByText := true, laidKinds := [.data, .data, .listed, .data, .data, .pinned], laidTests := true, laidLooks := .later }
def ScalarTrapsUptoCardSaid : Prop := Claim7.holds Tryz.pinned (.plain (OpenSpec.upto scalarTrapsSpec)) scalarTrapsUptoCard

/-- THE SECOND FORM's CARD OF 'bodkinlaw07.ScalarDo'. -/
def scalarDoUptoCard : Claim7 := { stood := { row := scalarDoUptoRow, standIns := [], harness := (true, "fa5aee3c77bfb3097dcb111a2bb398dba2e9c84b769d969d05949d2770fd6638"), looks := false }, kinds := [], alts := [], laidByText := true, laidKinds := [.data, .data, .listed, .data, .data, .pinned], laidTests := true, laidLooks := .later }
def ScalarDoUptoCardSaid : Prop := Claim7.holds Tryz.pinned (.plain (OpenSpec.upto scalarDoSpec)) scalarDoUptoCard

/-- THE SECOND FORM's CARD OF 'bodkinlaw07.ScalarAll'. -/
def scalarAllUptoCard : Claim7 := { stood := { row := scalarAllUptoRow, standIns := [], harness := (true, "fa5aee3c77bfb3097dcb111a2bb398dba2e9c84b769d969d05949d2770fd6638"), looks := false }, kinds := [], alts := [], laidByText := true, laidKinds := [.data, .data, .listed, .data, .data, .pinned], laidTests := true, laidLooks := .later }
def ScalarAllUptoCardSaid : Prop := Claim7.holds Tryz.pinned (.plain (OpenSpec.upto scalarAllSpec)) scalarAllUptoCard

/-- THE SECOND FORM's CARD OF 'bodkinlaw07.ScalarWords'. -/
def scalarWordsUptoCard : Claim7 := { stood := { row := scalarWordsUptoRow, standIns := [], harness := (true, "fa5aee3c77bfb3097dcb111a2bb398dba2e9c84b769d969d05949d2770fd6638"), looks := false }, kinds := [], alts := [], laidByText := true, laidKinds := [.data, .data, .listed, .data, .data, .pinned], laidTests := true, laidLooks := .later }
def ScalarWordsUptoCardSaid : Prop := Claim7.holds Tryz.pinned (.plain (OpenSpec.upto scalarWordsSpec)) scalarWordsUptoCard

/-- THE SECOND FORM's CARD OF 'bodkinlaw07.ScalarLongs'. -/
def scalarLongsUptoCard : Claim7 := { stood := { row := scalarLongsUptoRow, standIns := [], harness := (true, "fa5aee3c77bfb3097dcb111a2bb398dba2e9c84b769d969d05949d2770fd6638"), looks := false }, kinds := [], alts := [], laidByText := true, laidKinds := [.data, .data, .listed, .data, .data, .pinned], laidTests := true, laidLooks := .later }
def ScalarLongsUptoCardSaid : Prop := Claim7.holds Tryz.pinned (.plain (OpenSpec.upto scalarLongsSpec)) scalarLongsUptoCard

/-- THE SECOND FORM's CARD OF 'bodkinlaw07.ScalarStand'. -/
def scalarStandUptoCard : Claim7 := { stood := { row := scalarStandUptoRow, standIns := [], harness := (true, "fa5aee3c77bfb3097dcb111a2bb398dba2e9c84b769d969d05949d2770fd6638"), looks := false }, kinds := [], alts := [], laidByText := true, laidKinds := [.data, .data, .listed, .data, .data, .pinned], laidTests := true, laidLooks := .later }
def ScalarStandUptoCardSaid : Prop := Claim7.holds Tryz.pinned (.plain (OpenSpec.upto scalarStandSpec)) scalarStandUptoCard

/-- THE SECOND FORM's CARD OF 'bodkinlaw07.ScalarFloats'. -/
def scalarFloatsUptoCard : Claim7 := { stood := { row := scalarFloatsUptoRow, standIns := [], harness := (true, "fa5aee3c77bfb3097dcb111a2bb398dba2e9c84b769d969d05949d2770fd6638"), looks := false }, kinds := [], alts := [], laidByText := true, laidKinds := [.data, .data, .listed, .data, .data, .pinned], laidTests := true, laidLooks := .later }
def ScalarFloatsUptoCardSaid : Prop := Claim7.holds Tryz.pinned (.plain (OpenSpec.upto scalarFloatsSpec)) scalarFloatsUptoCard

/-- THE SECOND FORM's CARD OF 'bodkinlaw07.ScalarTurns'. -/
def scalarTurnsUptoCard : Claim7 := { stood := { row := scalarTurnsUptoRow, standIns := [], harness := (true, "fa5aee3c77bfb3097dcb111a2bb398dba2e9c84b769d969d05949d2770fd6638"), looks := false }, kinds := [], alts := [], laidByText := true, laidKinds := [.data, .data, .listed, .data, .data, .pinned], laidTests := true, laidLooks := .later }
def ScalarTurnsUptoCardSaid : Prop := Claim7.holds Tryz.pinned (.plain (OpenSpec.upto scalarTurnsSpec)) scalarTurnsUptoCard

/-- THE SECOND FORM's CARD OF 'bodkinlaw07.ScalarHeld'. -/
def scalarHeldUptoCard : Claim7 := { stood := { row := scalarHeldUptoRow, standIns := [], harness := (true, "fa5aee3c77bfb3097dcb111a2bb398dba2e9c84b769d969d05949d2770fd6638"), looks := false }, kinds := [], alts := [], laidByText := true, laidKinds := [.data, .data, .listed, .data, .data, .pinned], laidTests := true, laidLooks := .later }
def ScalarHeldUptoCardSaid : Prop := Claim7.holds Tryz.pinned (.plain (OpenSpec.upto scalarHeldSpec)) scalarHeldUptoCard
end Rows
end Go.Proofs.YtkhhhceeoljheaaGreatDoor
