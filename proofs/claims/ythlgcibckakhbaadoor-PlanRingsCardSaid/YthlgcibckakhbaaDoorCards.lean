/-
  DERIVED. GIVEN WITH THE SEED: THE CARDS: each row of YthlgcibckakhbaaDoorRows.lean that lists a variable, with what it lists TIED to the program's text (the seventh form; the later family's looks); each row that meets fmt, with fmt's text TOLD by the authors' own Lean function (tested against real Go, not proved from fmt's source: count such statements apart). THE CARD IS WHAT COUNTS. Prove the row's statement (the work); the ties are given (YthlgcibckakhbaaDoorTie.lean); close each card by the builder's one call (the guide's Derived/Test/ToyasCard.lean, 'card_holds'). Laid BY PROGRAM, IN A SANDBOX (cutbox-door.mjs). By AI agents, Wed Nov 11 2026. No macro, syntax, notation, axiom, sorry.
-/
import Derived.Test.YthlgcibckakhbaaDoorRows
import GoSem.ClaimSeven
namespace Go.Proofs.YthlgcibckakhbaaDoor
namespace Rows

/-- THE TIED CARD OF 'odysseylaw12.PlanRings'. -/
def planRingsCard : Claim7 := { stood := { row := planRingsRow, standIns := [], harness := (true, "e7a341cbb986b5d06509556b8b2a844a053843da5aa57f9c22996224cc2eff80"), looks := false }, kinds := [], alts := [], laidByText := true, laidKinds := [.data, .pinned], laidTests := true, laidLooks := .later }
def PlanRingsCardSaid : Prop := Claim7.holds Tryd.pinned (.plain (OpenSpec.ofChange planRingsSpec)) planRingsCard

/-- THE TIED CARD OF 'odysseylaw12.PlanDone'. -/
def planDoneCard : Claim7 := { stood := { row := planDoneRow, standIns := [], harness := (true, "e7a341cbb986b5d06509556b8b2a844a053843da5aa57f9c22996224cc2eff80"), looks := false }, kinds := [], alts := [], laidByText := true, laidKinds := [.data, .pinned], laidTests := true, laidLooks := .later }
def PlanDoneCardSaid : Prop := Claim7.holds Tryd.pinned (.plain (OpenSpec.ofChange planDoneSpec)) planDoneCard

/-- THE TIED CARD OF 'odysseylaw12.PlanUndone'. -/
def planUndoneCard : Claim7 := { stood := { row := planUndoneRow, standIns := [], harness := (true, "e7a341cbb986b5d06509556b8b2a844a053843da5aa57f9c22996224cc2eff80"), looks := false }, kinds := [], alts := [], laidByText := true, laidKinds := [.data, .pinned], laidTests := true, laidLooks := .later }
def PlanUndoneCardSaid : Prop := Claim7.holds Tryd.pinned (.plain (OpenSpec.ofChange planUndoneSpec)) planUndoneCard

/-- THE SECOND FORM's CARD OF 'odysseylaw12.PlanRings'. -/
def planRingsUptoCard : Claim7 := { stood := { row := planRingsUptoRow, standIns := [], harness := (true, "e7a341cbb986b5d06509556b8b2a844a053843da5aa57f9c22996224cc2eff80"), looks := false }, kinds := [], alts := [], laidByText := true, laidKinds := [.data, .pinned], laidTests := true, laidLooks := .later }
def PlanRingsUptoCardSaid : Prop := Claim7.holds Tryd.pinned (.plain (OpenSpec.upto planRingsSpec)) planRingsUptoCard

/-- THE SECOND FORM's CARD OF 'odysseylaw12.PlanDone'. -/
def planDoneUptoCard : Claim7 := { stood := { row := planDoneUptoRow, standIns := [], harness := (true, "e7a341cbb986b5d06509556b8b2a844a053843da5aa57f9c22996224cc2eff80"), looks := false }, kinds := [], alts := [], laidByText := true, laidKinds := [.data, .pinned], laidTests := true, laidLooks := .later }
def PlanDoneUptoCardSaid : Prop := Claim7.holds Tryd.pinned (.plain (OpenSpec.upto planDoneSpec)) planDoneUptoCard

/-- THE SECOND FORM's CARD OF 'odysseylaw12.PlanUndone'. -/
def planUndoneUptoCard : Claim7 := { stood := { row := planUndoneUptoRow, standIns := [], harness := (true, "e7a341cbb986b5d06509556b8b2a844a053843da5aa57f9c22996224cc2eff80"), looks := false }, kinds := [], alts := [], laidByText := true, laidKinds := [.data, .pinned], laidTests := true, laidLooks := .later }
def PlanUndoneUptoCardSaid : Prop := Claim7.holds Tryd.pinned (.plain (OpenSpec.upto planUndoneSpec)) planUndoneUptoCard
end Rows
end Go.Proofs.YthlgcibckakhbaaDoor
