/-
  DERIVED. GIVEN WITH THE SEED: THE CARDS: each row of YtehoiibnemjkaaaDoorRows.lean that lists a variable, with what it lists TIED to the program's text (the seventh form; the later family's looks); each row that meets fmt, with fmt's text TOLD by the authors' own Lean function (tested against real Go, not proved from fmt's source: count such statements apart). THE CARD IS WHAT COUNTS. Prove the row's statement (the work); the ties are given (YtehoiibnemjkaaaDoorTie.lean); close each card by the builder's one call (the guide's Derived/Test/ToyasCard.lean, 'card_holds'). Laid BY PROGRAM, IN A SANDBOX (cutbox-door.mjs). By AI agents, Wed Nov 11 2026. No macro, syntax, notation, axiom, sorry.
-/
import Derived.Test.YtehoiibnemjkaaaDoorRows
import GoSem.ClaimSeven
namespace Go.Proofs.YtehoiibnemjkaaaDoor
namespace Rows

/-- THE TIED CARD OF 'datumlaw13.ZoneTells'. -/
def zoneTellsCard : Claim7 := { stood := { row := zoneTellsRow, standIns := [], harness := (true, "2735539203a998c6d72144b6f58b509694e092b6aed7e2e44d052cb88db391f3"), looks := false }, kinds := [], alts := [], laidByText := true, laidKinds := [.data, .data], laidTests := true, laidLooks := .later }
def ZoneTellsCardSaid : Prop := Claim7.holds Tryd.pinned (.plain (OpenSpec.ofChange zoneTellsSpec)) zoneTellsCard

/-- THE TIED CARD OF 'datumlaw13.ZoneHolds'. -/
def zoneHoldsCard : Claim7 := { stood := { row := zoneHoldsRow, standIns := [], harness := (true, "2735539203a998c6d72144b6f58b509694e092b6aed7e2e44d052cb88db391f3"), looks := false }, kinds := [], alts := [], laidByText := true, laidKinds := [.data, .data], laidTests := true, laidLooks := .later }
def ZoneHoldsCardSaid : Prop := Claim7.holds Tryd.pinned (.plain (OpenSpec.ofChange zoneHoldsSpec)) zoneHoldsCard

/-- THE SECOND FORM's CARD OF 'datumlaw13.ZoneTells'. -/
def zoneTellsUptoCard : Claim7 := { stood := { row := zoneTellsUptoRow, standIns := [], harness := (true, "2735539203a998c6d72144b6f58b509694e092b6aed7e2e44d052cb88db391f3"), looks := false }, kinds := [], alts := [], laidByText := true, laidKinds := [.data, .data], laidTests := true, laidLooks := .later }
def ZoneTellsUptoCardSaid : Prop := Claim7.holds Tryd.pinned (.plain (OpenSpec.upto zoneTellsSpec)) zoneTellsUptoCard

/-- THE SECOND FORM's CARD OF 'datumlaw13.ZoneHolds'. -/
def zoneHoldsUptoCard : Claim7 := { stood := { row := zoneHoldsUptoRow, standIns := [], harness := (true, "2735539203a998c6d72144b6f58b509694e092b6aed7e2e44d052cb88db391f3"), looks := false }, kinds := [], alts := [], laidByText := true, laidKinds := [.data, .data], laidTests := true, laidLooks := .later }
def ZoneHoldsUptoCardSaid : Prop := Claim7.holds Tryd.pinned (.plain (OpenSpec.upto zoneHoldsSpec)) zoneHoldsUptoCard
end Rows
end Go.Proofs.YtehoiibnemjkaaaDoor
