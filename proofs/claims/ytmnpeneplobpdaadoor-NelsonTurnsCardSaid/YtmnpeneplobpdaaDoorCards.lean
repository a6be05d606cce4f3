/-
  DERIVED. GIVEN WITH THE SEED: THE CARDS: each row of YtmnpeneplobpdaaDoorRows.lean that lists a variable, with what it lists TIED to the program's text (the seventh form; the later family's looks); each row that meets fmt, with fmt's text TOLD by the authors' own Lean function (tested against real Go, not proved from fmt's source: count such statements apart). THE CARD IS WHAT COUNTS. Prove the row's statement (the work); the ties are given (YtmnpeneplobpdaaDoorTie.lean); close each card by the builder's one call (the guide's Derived/Test/ToyasCard.lean, 'card_holds'). Laid BY PROGRAM, IN A SANDBOX (cutbox-door.mjs). By AI agents, Wed Nov 11 2026. No macro, syntax, notation, axiom, sorry.
-/
import Derived.Test.YtmnpeneplobpdaaDoorRows
import GoSem.ClaimSeven
namespace Go.Proofs.YtmnpeneplobpdaaDoor
namespace Rows

/-- THE TIED CARD OF 'datumlaw14.NelsonExact'. -/
def nelsonExactCard : Claim7 := { stood := { row := nelsonExactRow, standIns := [], harness := (true, "5a788f6c20a520c0cd595192efba8888e709bd6fc91d8a1dc3436ea4bd2dc85f"), looks := false }, kinds := [], alts := [], laidByText := true, laidKinds := [.data, .data], laidTests := true, laidLooks := .later }
def NelsonExactCardSaid : Prop := Claim7.holds Tryd.pinned (.plain (OpenSpec.ofChange nelsonExactSpec)) nelsonExactCard

/-- THE TIED CARD OF 'datumlaw14.NelsonSure'. -/
def nelsonSureCard : Claim7 := { stood := { row := nelsonSureRow, standIns := [], harness := (true, "5a788f6c20a520c0cd595192efba8888e709bd6fc91d8a1dc3436ea4bd2dc85f"), looks := false }, kinds := [], alts := [], laidByText := true, laidKinds := [.data, .data], laidTests := true, laidLooks := .later }
def NelsonSureCardSaid : Prop := Claim7.holds Tryd.pinned (.plain (OpenSpec.ofChange nelsonSureSpec)) nelsonSureCard

/-- THE TIED CARD OF 'datumlaw14.NelsonNarrows'. -/
def nelsonNarrowsCard : Claim7 := { stood := { row := nelsonNarrowsRow, standIns := [], harness := (true, "5a788f6c20a520c0cd595192efba8888e709bd6fc91d8a1dc3436ea4bd2dc85f"), looks := false }, kinds := [], alts := [], laidByText := true, laidKinds := [.data, .data], laidTests := true, laidLooks := .later }
def NelsonNarrowsCardSaid : Prop := Claim7.holds Tryd.pinned (.plain (OpenSpec.ofChange nelsonNarrowsSpec)) nelsonNarrowsCard

/-- THE TIED CARD OF 'datumlaw14.NelsonTells'. -/
def nelsonTellsCard : Claim7 := { stood := { row := nelsonTellsRow, standIns := [], harness := (true, "5a788f6c20a520c0cd595192efba8888e709bd6fc91d8a1dc3436ea4bd2dc85f"), looks := false }, kinds := [], alts := [], laidByText := true, laidKinds := [.data, .data], laidTests := true, laidLooks := .later }
def NelsonTellsCardSaid : Prop := Claim7.holds Tryd.pinned (.plain (OpenSpec.ofChange nelsonTellsSpec)) nelsonTellsCard

/-- THE TIED CARD OF 'datumlaw14.NelsonTurns'. -/
def nelsonTurnsCard : Claim7 := { stood := { row := nelsonTurnsRow, standIns := [], harness := (true, "5a788f6c20a520c0cd595192efba8888e709bd6fc91d8a1dc3436ea4bd2dc85f"), looks := false }, kinds := [], alts := [], laidByText := true, laidKinds := [.data, .data], laidTests := true, laidLooks := .later }
def NelsonTurnsCardSaid : Prop := Claim7.holds Tryd.pinned (.plain (OpenSpec.ofChange nelsonTurnsSpec)) nelsonTurnsCard

/-- THE SECOND FORM's CARD OF 'datumlaw14.NelsonExact'. -/
def nelsonExactUptoCard : Claim7 := { stood := { row := nelsonExactUptoRow, standIns := [], harness := (true, "5a788f6c20a520c0cd595192efba8888e709bd6fc91d8a1dc3436ea4bd2dc85f"), looks := false }, kinds := [], alts := [], laidByText := true, laidKinds := [.data, .data], laidTests := true, laidLooks := .later }
def NelsonExactUptoCardSaid : Prop := Claim7.holds Tryd.pinned (.plain (OpenSpec.upto nelsonExactSpec)) nelsonExactUptoCard

/-- THE SECOND FORM's CARD OF 'datumlaw14.NelsonSure'. -/
def nelsonSureUptoCard : Claim7 := { stood := { row := nelsonSureUptoRow, standIns := [], harness := (true, "5a788f6c20a520c0cd595192efba8888e709bd6fc91d8a1dc3436ea4bd2dc85f"), looks := false }, kinds := [], alts := [], laidByText := true, laidKinds := [.data, .data], laidTests := true, laidLooks := .later }
def NelsonSureUptoCardSaid : Prop := Claim7.holds Tryd.pinned (.plain (OpenSpec.upto nelsonSureSpec)) nelsonSureUptoCard

/-- THE SECOND FORM's CARD OF 'datumlaw14.NelsonNarrows'. -/
def nelsonNarrowsUptoCard : Claim7 := { stood := { row := nelsonNarrowsUptoRow, standIns := [], harness := (true, "5a788f6c20a520c0cd595192efba8888e709bd6fc91d8a1dc3436ea4bd2dc85f"), looks := false }, kinds := [], alts := [], laidByText := true, laidKinds := [.data, .data], laidTests := true, laidLooks := .later }
def NelsonNarrowsUptoCardSaid : Prop := Claim7.holds Tryd.pinned (.plain (OpenSpec.upto nelsonNarrowsSpec)) nelsonNarrowsUptoCard

/-- THE SECOND FORM's CARD OF 'datumlaw14.NelsonTells'. -/
def nelsonTellsUptoCard : Claim7 := { stood := { row := nelsonTellsUptoRow, standIns := [], harness := (true, "5a788f6c20a520c0cd595192efba8888e709bd6fc91d8a1dc3436ea4bd2dc85f"), looks := false }, kinds := [], alts := [], laidByText := true, laidKinds := [.data, .data], laidTests := true, laidLooks := .later }
def NelsonTellsUptoCardSaid : Prop := Claim7.holds Tryd.pinned (.plain (OpenSpec.upto nelsonTellsSpec)) nelsonTellsUptoCard

/-- THE SECOND FORM's CARD OF 'datumlaw14.NelsonTurns'. -/
def nelsonTurnsUptoCard : Claim7 := { stood := { row := nelsonTurnsUptoRow, standIns := [], harness := (true, "5a788f6c20a520c0cd595192efba8888e709bd6fc91d8a1dc3436ea4bd2dc85f"), looks := false }, kinds := [], alts := [], laidByText := true, laidKinds := [.data, .data], laidTests := true, laidLooks := .later }
def NelsonTurnsUptoCardSaid : Prop := Claim7.holds Tryd.pinned (.plain (OpenSpec.upto nelsonTurnsSpec)) nelsonTurnsUptoCard
end Rows
end Go.Proofs.YtmnpeneplobpdaaDoor
