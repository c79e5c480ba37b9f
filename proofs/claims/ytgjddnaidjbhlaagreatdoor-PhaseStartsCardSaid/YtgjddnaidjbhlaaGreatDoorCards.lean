/-
  DERIVED. GIVEN WITH THE SEED: THE CARDS: each row of YtgjddnaidjbhlaaGreatDoorRows.lean that lists a variable, with what it lists TIED to the program's text (the seventh form; the later family's looks); each row that meets fmt, with fmt's text TOLD by the authors' own Lean function (tested against real Go, not proved from fmt's source: count such statements apart). THE CARD IS WHAT COUNTS. Prove the row's statement (the work); the ties are given (YtgjddnaidjbhlaaGreatDoorTie.lean); close each card by the builder's one call (the guide's Derived/Test/ToyasCard.lean, 'card_holds'). Laid BY PROGRAM, IN A SANDBOX (cutbox-door.mjs). By AI agents, Wed Nov 11 2026. No macro, syntax, notation, axiom, sorry.
-/
import Derived.Test.YtgjddnaidjbhlaaGreatDoorRows
import GoSem.ClaimSeven
namespace Go.Proofs.YtgjddnaidjbhlaaGreatDoor
namespace Rows

/-- THE TIED CARD OF 'odysseylaw19.PhaseStarts'. -/
def phaseStartsCard : Claim7 := { stood := { row := phaseStartsRow, standIns := [], harness := (true, "1c46561711e840037c0b909f97a160981e9e3c0b2c2a35e69b1251962a15cf29"), looks := false }, kinds := [], alts := [], laidByText := true, laidKinds := [.data, .pinned], laidTests := true, laidLooks := .later }
def PhaseStartsCardSaid : Prop := Claim7.holds Tryz.pinned (.plain (OpenSpec.ofChange phaseStartsSpec)) phaseStartsCard

/-- THE TIED CARD OF 'odysseylaw19.PhaseLooks'. -/
def phaseLooksCard : Claim7 := { stood := { row := phaseLooksRow, standIns := [], harness := (true, "1c46561711e840037c0b909f97a160981e9e3c0b2c2a35e69b1251962a15cf29"), looks := false }, kinds := [], alts := [], laidByText := true, laidKinds := [.data, .pinned], laidTests := true, laidLooks := .later }
def PhaseLooksCardSaid : Prop := Claim7.holds Tryz.pinned (.plain (OpenSpec.ofChange phaseLooksSpec)) phaseLooksCard

/-- THE TIED CARD OF 'odysseylaw19.PhaseOns'. -/
def phaseOnsCard : Claim7 := { stood := { row := phaseOnsRow, standIns := [], harness := (true, "1c46561711e840037c0b909f97a160981e9e3c0b2c2a35e69b1251962a15cf29"), looks := false }, kinds := [], alts := [], laidByText := true, laidKinds := [.data, .pinned], laidTests := true, laidLooks := .later }
def PhaseOnsCardSaid : Prop := Claim7.holds Tryz.pinned (.plain (OpenSpec.ofChange phaseOnsSpec)) phaseOnsCard

/-- THE TIED CARD OF 'odysseylaw19.PhaseGoes'. -/
def phaseGoesCard : Claim7 := { stood := { row := phaseGoesRow, standIns := [], harness := (true, "1c46561711e840037c0b909f97a160981e9e3c0b2c2a35e69b1251962a15cf29"), looks := false }, kinds := [], alts := [], laidByText := true, laidKinds := [.data, .pinned], laidTests := true, laidLooks := .later }
def PhaseGoesCardSaid : Prop := Claim7.holds Tryz.pinned (.plain (OpenSpec.ofChange phaseGoesSpec)) phaseGoesCard

/-- THE TIED CARD OF 'odysseylaw19.PhaseNoted'. -/
def phaseNotedCard : Claim7 := { stood := { row := phaseNotedRow, standIns := [], harness := (true, "1c46561711e840037c0b909f97a160981e9e3c0b2c2a35e69b1251962a15cf29"), looks := false }, kinds := [], alts := [], laidByText := true, laidKinds := [.data, .pinned], laidTests := true, laidLooks := .later }
def PhaseNotedCardSaid : Prop := Claim7.holds Tryz.pinned (.plain (OpenSpec.ofChange phaseNotedSpec)) phaseNotedCard

/-- THE TIED CARD OF 'odysseylaw19.PhaseOpen'. -/
def phaseOpenCard : Claim7 := { stood := { row := phaseOpenRow, standIns := [], harness := (true, "1c46561711e840037c0b909f97a160981e9e3c0b2c2a35e69b1251962a15cf29"), looks := false }, kinds := [], alts := [], laidByText := true, laidKinds := [.data, .pinned], laidTests := true, laidLooks := .later }
def PhaseOpenCardSaid : Prop := Claim7.holds Tryz.pinned (.plain (OpenSpec.ofChange phaseOpenSpec)) phaseOpenCard

/-- THE TIED CARD OF 'odysseylaw19.PhaseEnds'. -/
def phaseEndsCard : Claim7 := { stood := { row := phaseEndsRow, standIns := [], harness := (true, "1c46561711e840037c0b909f97a160981e9e3c0b2c2a35e69b1251962a15cf29"), looks := false }, kinds := [], alts := [], laidByText := true, laidKinds := [.data, .pinned], laidTests := true, laidLooks := .later }
def PhaseEndsCardSaid : Prop := Claim7.holds Tryz.pinned (.plain (OpenSpec.ofChange phaseEndsSpec)) phaseEndsCard

/-- THE TIED CARD OF 'odysseylaw19.PhasePaths'. -/
def phasePathsCard : Claim7 := { stood := { row := phasePathsRow, standIns := [], harness := (true, "1c46561711e840037c0b909f97a160981e9e3c0b2c2a35e69b1251962a15cf29"), looks := false }, kinds := [], alts := [], laidByText := true, laidKinds := [.data, .pinned], laidTests := true, laidLooks := .later }
def PhasePathsCardSaid : Prop := Claim7.holds Tryz.pinned (.plain (OpenSpec.ofChange phasePathsSpec)) phasePathsCard

/-- THE TIED CARD OF 'odysseylaw19.PhaseCosts'. -/
def phaseCostsCard : Claim7 := { stood := { row := phaseCostsRow, standIns := [], harness := (true, "1c46561711e840037c0b909f97a160981e9e3c0b2c2a35e69b1251962a15cf29"), looks := false }, kinds := [], alts := [], laidByText := true, laidKinds := [.data, .pinned], laidTests := true, laidLooks := .later }
def PhaseCostsCardSaid : Prop := Claim7.holds Tryz.pinned (.plain (OpenSpec.ofChange phaseCostsSpec)) phaseCostsCard

/-- THE SECOND FORM's CARD OF 'odysseylaw19.PhaseStarts'. -/
def phaseStartsUptoCard : Claim7 := { stood := { row := phaseStartsUptoRow, standIns := [], harness := (true, "1c46561711e840037c0b909f97a160981e9e3c0b2c2a35e69b1251962a15cf29"), looks := false }, kinds := [], alts := [], laidByText := true, laidKinds := [.data, .pinned], laidTests := true, laidLooks := .later }
def PhaseStartsUptoCardSaid : Prop := Claim7.holds Tryz.pinned (.plain (OpenSpec.upto phaseStartsSpec)) phaseStartsUptoCard

/-- THE SECOND FORM's CARD OF 'odysseylaw19.PhaseLooks'. -/
def phaseLooksUptoCard : Claim7 := { stood := { row := phaseLooksUptoRow, standIns := [], harness := (true, "1c46561711e840037c0b909f97a160981e9e3c0b2c2a35e69b1251962a15cf29"), looks := false }, kinds := [], alts := [], laidByText := true, laidKinds := [.data, .pinned], laidTests := true, laidLooks := .later }
def PhaseLooksUptoCardSaid : Prop := Claim7.holds Tryz.pinned (.plain (OpenSpec.upto phaseLooksSpec)) phaseLooksUptoCard

/-- THE SECOND FORM's CARD OF 'odysseylaw19.PhaseOns'. -/
def phaseOnsUptoCard : Claim7 := { stood := { row := phaseOnsUptoRow, standIns := [], harness := (true, "1c46561711e840037c0b909f97a160981e9e3c0b2c2a35e69b1251962a15cf29"), looks := false }, kinds := [], alts := [], laidByText := true, laidKinds := [.data, .pinned], laidTests := true, laidLooks := .later }
def PhaseOnsUptoCardSaid : Prop := Claim7.holds Tryz.pinned (.plain (OpenSpec.upto phaseOnsSpec)) phaseOnsUptoCard

/-- THE SECOND FORM's CARD OF 'odysseylaw19.PhaseGoes'. -/
def phaseGoesUptoCard : Claim7 := { stood := { row := phaseGoesUptoRow, standIns := [], harness := (true, "1c46561711e840037c0b909f97a160981e9e3c0b2c2a35e69b1251962a15cf29"), looks := false }, kinds := [], alts := [], laidByText := true, laidKinds := [.data, .pinned], laidTests := true, laidLooks := .later }
def PhaseGoesUptoCardSaid : Prop := Claim7.holds Tryz.pinned (.plain (OpenSpec.upto phaseGoesSpec)) phaseGoesUptoCard

/-- THE SECOND FORM's CARD OF 'odysseylaw19.PhaseNoted'. -/
def phaseNotedUptoCard : Claim7 := { stood := { row := phaseNotedUptoRow, standIns := [], harness := (true, "1c46561711e840037c0b909f97a160981e9e3c0b2c2a35e69b1251962a15cf29"), looks := false }, kinds := [], alts := [], laidByText := true, laidKinds := [.data, .pinned], laidTests := true, laidLooks := .later }
def PhaseNotedUptoCardSaid : Prop := Claim7.holds Tryz.pinned (.plain (OpenSpec.upto phaseNotedSpec)) phaseNotedUptoCard

/-- THE SECOND FORM's CARD OF 'odysseylaw19.PhaseOpen'. -/
def phaseOpenUptoCard : Claim7 := { stood := { row := phaseOpenUptoRow, standIns := [], harness := (true, "1c46561711e840037c0b909f97a160981e9e3c0b2c2a35e69b1251962a15cf29"), looks := false }, kinds := [], alts := [], laidByText := true, laidKinds := [.data, .pinned], laidTests := true, laidLooks := .later }
def PhaseOpenUptoCardSaid : Prop := Claim7.holds Tryz.pinned (.plain (OpenSpec.upto phaseOpenSpec)) phaseOpenUptoCard

/-- THE SECOND FORM's CARD OF 'odysseylaw19.PhaseEnds'. -/
def phaseEndsUptoCard : Claim7 := { stood := { row := phaseEndsUptoRow, standIns := [], harness := (true, "1c46561711e840037c0b909f97a160981e9e3c0b2c2a35e69b1251962a15cf29"), looks := false }, kinds := [], alts := [], laidByText := true, laidKinds := [.data, .pinned], laidTests := true, laidLooks := .later }
def PhaseEndsUptoCardSaid : Prop := Claim7.holds Tryz.pinned (.plain (OpenSpec.upto phaseEndsSpec)) phaseEndsUptoCard

/-- THE SECOND FORM's CARD OF 'odysseylaw19.PhasePaths'. -/
def phasePathsUptoCard : Claim7 := { stood := { row := phasePathsUptoRow, standIns := [], harness := (true, "1c46561711e840037c0b909f97a160981e9e3c0b2c2a35e69b1251962a15cf29"), looks := false }, kinds := [], alts := [], laidByText := true, laidKinds := [.data, .pinned], laidTests := true, laidLooks := .later }
def PhasePathsUptoCardSaid : Prop := Claim7.holds Tryz.pinned (.plain (OpenSpec.upto phasePathsSpec)) phasePathsUptoCard

/-- THE SECOND FORM's CARD OF 'odysseylaw19.PhaseCosts'. -/
def phaseCostsUptoCard : Claim7 := { stood := { row := phaseCostsUptoRow, standIns := [], harness := (true, "1c46561711e840037c0b909f97a160981e9e3c0b2c2a35e69b1251962a15cf29"), looks := false }, kinds := [], alts := [], laidByText := true, laidKinds := [.data, .pinned], laidTests := true, laidLooks := .later }
def PhaseCostsUptoCardSaid : Prop := Claim7.holds Tryz.pinned (.plain (OpenSpec.upto phaseCostsSpec)) phaseCostsUptoCard
end Rows
end Go.Proofs.YtgjddnaidjbhlaaGreatDoor
