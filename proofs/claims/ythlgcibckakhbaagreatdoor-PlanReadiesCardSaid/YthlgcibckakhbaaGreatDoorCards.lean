/-
  DERIVED. GIVEN WITH THE SEED: THE CARDS: each row of YthlgcibckakhbaaGreatDoorRows.lean that lists a variable, with what it lists TIED to the program's text (the seventh form; the later family's looks); each row that meets fmt, with fmt's text TOLD by the authors' own Lean function (tested against real Go, not proved from fmt's source: count such statements apart). THE CARD IS WHAT COUNTS. Prove the row's statement (the work); the ties are given (YthlgcibckakhbaaGreatDoorTie.lean); close each card by the builder's one call (the guide's Derived/Test/ToyasCard.lean, 'card_holds'). Laid BY PROGRAM, IN A SANDBOX (cutbox-door.mjs). By AI agents, Wed Nov 11 2026. No macro, syntax, notation, axiom, sorry.
-/
import Derived.Test.YthlgcibckakhbaaGreatDoorRows
import GoSem.ClaimSeven
namespace Go.Proofs.YthlgcibckakhbaaGreatDoor
namespace Rows

/-- THE TIED CARD OF 'odysseylaw12.PlanAheads'. -/
def planAheadsCard : Claim7 := { stood := { row := planAheadsRow, standIns := [], harness := (true, "d3ea26b5b91ba6c3d29962a1dea7dd99b9c0d1544c54c02a0b068e86bed22a5b"), looks := false }, kinds := [], alts := [], laidByText := true, laidKinds := [.data, .pinned], laidTests := true, laidLooks := .later }
def PlanAheadsCardSaid : Prop := Claim7.holds Tryz.pinned (.plain (OpenSpec.ofChange planAheadsSpec)) planAheadsCard

/-- THE TIED CARD OF 'odysseylaw12.PlanReadies'. -/
def planReadiesCard : Claim7 := { stood := { row := planReadiesRow, standIns := [], harness := (true, "d3ea26b5b91ba6c3d29962a1dea7dd99b9c0d1544c54c02a0b068e86bed22a5b"), looks := false }, kinds := [], alts := [], laidByText := true, laidKinds := [.data, .pinned], laidTests := true, laidLooks := .later }
def PlanReadiesCardSaid : Prop := Claim7.holds Tryz.pinned (.plain (OpenSpec.ofChange planReadiesSpec)) planReadiesCard

/-- THE SECOND FORM's CARD OF 'odysseylaw12.PlanAheads'. -/
def planAheadsUptoCard : Claim7 := { stood := { row := planAheadsUptoRow, standIns := [], harness := (true, "d3ea26b5b91ba6c3d29962a1dea7dd99b9c0d1544c54c02a0b068e86bed22a5b"), looks := false }, kinds := [], alts := [], laidByText := true, laidKinds := [.data, .pinned], laidTests := true, laidLooks := .later }
def PlanAheadsUptoCardSaid : Prop := Claim7.holds Tryz.pinned (.plain (OpenSpec.upto planAheadsSpec)) planAheadsUptoCard

/-- THE SECOND FORM's CARD OF 'odysseylaw12.PlanReadies'. -/
def planReadiesUptoCard : Claim7 := { stood := { row := planReadiesUptoRow, standIns := [], harness := (true, "d3ea26b5b91ba6c3d29962a1dea7dd99b9c0d1544c54c02a0b068e86bed22a5b"), looks := false }, kinds := [], alts := [], laidByText := true, laidKinds := [.data, .pinned], laidTests := true, laidLooks := .later }
def PlanReadiesUptoCardSaid : Prop := Claim7.holds Tryz.pinned (.plain (OpenSpec.upto planReadiesSpec)) planReadiesUptoCard
end Rows
end Go.Proofs.YthlgcibckakhbaaGreatDoor
