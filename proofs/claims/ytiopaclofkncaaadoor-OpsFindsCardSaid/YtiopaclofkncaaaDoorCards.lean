/-
  DERIVED. GIVEN WITH THE SEED: THE CARDS: each row of YtiopaclofkncaaaDoorRows.lean that lists a variable, with what it lists TIED to the program's text (the seventh form; the later family's looks); each row that meets fmt, with fmt's text TOLD by the authors' own Lean function (tested against real Go, not proved from fmt's source: count such statements apart). THE CARD IS WHAT COUNTS. Prove the row's statement (the work); the ties are given (YtiopaclofkncaaaDoorTie.lean); close each card by the builder's one call (the guide's Derived/Test/ToyasCard.lean, 'card_holds'). Laid BY PROGRAM, IN A SANDBOX (cutbox-door.mjs). By AI agents, Wed Nov 11 2026. No macro, syntax, notation, axiom, sorry.
-/
import Derived.Test.YtiopaclofkncaaaDoorRows
import GoSem.ClaimSeven
namespace Go.Proofs.YtiopaclofkncaaaDoor
namespace Rows

/-- THE TIED CARD OF 'bodkinlaw05.OpsSays'. -/
def opsSaysCard : Claim7 := { stood := { row := opsSaysRow, standIns := [], harness := (true, "8010837e853507e9efe0bb79988705d0e973a51da4cb065fe72f5823c28de607"), looks := false }, kinds := [], alts := [], laidByText := true, laidKinds := [.listed, .data, .data], laidTests := true, laidLooks := .later }
def OpsSaysCardSaid : Prop := Claim7.holds Tryd.pinned (.plain (OpenSpec.ofChange opsSaysSpec)) opsSaysCard

/-- THE TIED CARD OF 'bodkinlaw05.OpsFinds'. -/
def opsFindsCard : Claim7 := { stood := { row := opsFindsRow, standIns := [], harness := (true, "8010837e853507e9efe0bb79988705d0e973a51da4cb065fe72f5823c28de607"), looks := false }, kinds := [], alts := [], laidByText := true, laidKinds := [.listed, .data, .data], laidTests := true, laidLooks := .later }
def OpsFindsCardSaid : Prop := Claim7.holds Tryd.pinned (.plain (OpenSpec.ofChange opsFindsSpec)) opsFindsCard

/-- THE TIED CARD OF 'bodkinlaw05.OpsAll'. -/
def opsAllCard : Claim7 := { stood := { row := opsAllRow, standIns := [], harness := (true, "8010837e853507e9efe0bb79988705d0e973a51da4cb065fe72f5823c28de607"), looks := false }, kinds := [], alts := [], laidByText := true, laidKinds := [.listed, .data, .data], laidTests := true, laidLooks := .later }
def OpsAllCardSaid : Prop := Claim7.holds Tryd.pinned (.plain (OpenSpec.ofChange opsAllSpec)) opsAllCard

/-- THE TIED CARD OF 'bodkinlaw05.OpsPlaces'. -/
def opsPlacesCard : Claim7 := { stood := { row := opsPlacesRow, standIns := [], harness := (true, "8010837e853507e9efe0bb79988705d0e973a51da4cb065fe72f5823c28de607"), looks := false }, kinds := [], alts := [], laidByText := true, laidKinds := [.listed, .data, .data], laidTests := true, laidLooks := .later }
def OpsPlacesCardSaid : Prop := Claim7.holds Tryd.pinned (.plain (OpenSpec.ofChange opsPlacesSpec)) opsPlacesCard

/-- THE TIED CARD OF 'bodkinlaw05.OpsSigns'. -/
def opsSignsCard : Claim7 := { stood := { row := opsSignsRow, standIns := [], harness := (true, "8010837e853507e9efe0bb79988705d0e973a51da4cb065fe72f5823c28de607"), looks := false }, kinds := [], alts := [], laidByText := true, laidKinds := [.listed, .data, .data], laidTests := true, laidLooks := .later }
def OpsSignsCardSaid : Prop := Claim7.holds Tryd.pinned (.plain (OpenSpec.ofChange opsSignsSpec)) opsSignsCard

/-- THE SECOND FORM's CARD OF 'bodkinlaw05.OpsSays'. -/
def opsSaysUptoCard : Claim7 := { stood := { row := opsSaysUptoRow, standIns := [], harness := (true, "8010837e853507e9efe0bb79988705d0e973a51da4cb065fe72f5823c28de607"), looks := false }, kinds := [], alts := [], laidByText := true, laidKinds := [.listed, .data, .data], laidTests := true, laidLooks := .later }
def OpsSaysUptoCardSaid : Prop := Claim7.holds Tryd.pinned (.plain (OpenSpec.upto opsSaysSpec)) opsSaysUptoCard

/-- THE SECOND FORM's CARD OF 'bodkinlaw05.OpsFinds'. -/
def opsFindsUptoCard : Claim7 := { stood := { row := opsFindsUptoRow, standIns := [], harness := (true, "8010837e853507e9efe0bb79988705d0e973a51da4cb065fe72f5823c28de607"), looks := false }, kinds := [], alts := [], laidByText := true, laidKinds := [.listed, .data, .data], laidTests := true, laidLooks := .later }
def OpsFindsUptoCardSaid : Prop := Claim7.holds Tryd.pinned (.plain (OpenSpec.upto opsFindsSpec)) opsFindsUptoCard

/-- THE SECOND FORM's CARD OF 'bodkinlaw05.OpsAll'. -/
def opsAllUptoCard : Claim7 := { stood := { row := opsAllUptoRow, standIns := [], harness := (true, "8010837e853507e9efe0bb79988705d0e973a51da4cb065fe72f5823c28de607"), looks := false }, kinds := [], alts := [], laidByText := true, laidKinds := [.listed, .data, .data], laidTests := true, laidLooks := .later }
def OpsAllUptoCardSaid : Prop := Claim7.holds Tryd.pinned (.plain (OpenSpec.upto opsAllSpec)) opsAllUptoCard

/-- THE SECOND FORM's CARD OF 'bodkinlaw05.OpsPlaces'. -/
def opsPlacesUptoCard : Claim7 := { stood := { row := opsPlacesUptoRow, standIns := [], harness := (true, "8010837e853507e9efe0bb79988705d0e973a51da4cb065fe72f5823c28de607"), looks := false }, kinds := [], alts := [], laidByText := true, laidKinds := [.listed, .data, .data], laidTests := true, laidLooks := .later }
def OpsPlacesUptoCardSaid : Prop := Claim7.holds Tryd.pinned (.plain (OpenSpec.upto opsPlacesSpec)) opsPlacesUptoCard

/-- THE SECOND FORM's CARD OF 'bodkinlaw05.OpsSigns'. -/
def opsSignsUptoCard : Claim7 := { stood := { row := opsSignsUptoRow, standIns := [], harness := (true, "8010837e853507e9efe0bb79988705d0e973a51da4cb065fe72f5823c28de607"), looks := false }, kinds := [], alts := [], laidByText := true, laidKinds := [.listed, .data, .data], laidTests := true, laidLooks := .later }
def OpsSignsUptoCardSaid : Prop := Claim7.holds Tryd.pinned (.plain (OpenSpec.upto opsSignsSpec)) opsSignsUptoCard
end Rows
end Go.Proofs.YtiopaclofkncaaaDoor
