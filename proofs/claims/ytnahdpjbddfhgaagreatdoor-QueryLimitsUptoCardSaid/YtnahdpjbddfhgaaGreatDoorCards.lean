/-
  DERIVED. GIVEN WITH THE SEED: THE CARDS: each row of YtnahdpjbddfhgaaGreatDoorRows.lean that lists a variable, with what it lists TIED to the program's text (the seventh form; the later family's looks); each row that meets fmt, with fmt's text TOLD by the authors' own Lean function (tested against real Go, not proved from fmt's source: count such statements apart). THE CARD IS WHAT COUNTS. Prove the row's statement (the work); the ties are given (YtnahdpjbddfhgaaGreatDoorTie.lean); close each card by the builder's one call (the guide's Derived/Test/ToyasCard.lean, 'card_holds'). Laid BY PROGRAM, IN A SANDBOX (cutbox-door.mjs). By AI agents, Wed Nov 11 2026. No macro, syntax, notation, axiom, sorry.
-/
import Derived.Test.YtnahdpjbddfhgaaGreatDoorRows
import GoSem.ClaimSeven
namespace Go.Proofs.YtnahdpjbddfhgaaGreatDoor
namespace Rows

/-- THE TIED CARD OF 'garnerlaw24.QueryParses'. -/
def queryParsesCard : Claim7 := { stood := { row := queryParsesRow, standIns := [], harness := (true, "c21b74b4ed7a06717e2f7244cd990ee91ead1ce1116059e2391e93cc80520178"), looks := true }, kinds := [], alts := [], laidByText := true, laidKinds := [.data, .pinned], laidTests := true, laidLooks := .later }
def QueryParsesCardSaid : Prop := Claim7.holds Tryz.pinned (.plain (OpenSpec.ofChange queryParsesSpec)) queryParsesCard

/-- THE TIED CARD OF 'garnerlaw24.QueryHolds'. -/
def queryHoldsCard : Claim7 := { stood := { row := queryHoldsRow, standIns := [], harness := (true, "c21b74b4ed7a06717e2f7244cd990ee91ead1ce1116059e2391e93cc80520178"), looks := true }, kinds := [], alts := [], laidByText := true, laidKinds := [.data, .pinned], laidTests := true, laidLooks := .later }
def QueryHoldsCardSaid : Prop := Claim7.holds Tryz.pinned (.plain (OpenSpec.ofChange queryHoldsSpec)) queryHoldsCard

/-- THE TIED CARD OF 'garnerlaw24.QueryBack'. -/
def queryBackCard : Claim7 := { stood := { row := queryBackRow, standIns := [], harness := (true, "c21b74b4ed7a06717e2f7244cd990ee91ead1ce1116059e2391e93cc80520178"), looks := true }, kinds := [], alts := [], laidByText := true, laidKinds := [.data, .pinned], laidTests := true, laidLooks := .later }
def QueryBackCardSaid : Prop := Claim7.holds Tryz.pinned (.plain (OpenSpec.ofChange queryBackSpec)) queryBackCard

/-- THE TIED CARD OF 'garnerlaw24.QueryParts'. -/
def queryPartsCard : Claim7 := { stood := { row := queryPartsRow, standIns := [], harness := (true, "c21b74b4ed7a06717e2f7244cd990ee91ead1ce1116059e2391e93cc80520178"), looks := true }, kinds := [], alts := [], laidByText := true, laidKinds := [.data, .pinned], laidTests := true, laidLooks := .later }
def QueryPartsCardSaid : Prop := Claim7.holds Tryz.pinned (.plain (OpenSpec.ofChange queryPartsSpec)) queryPartsCard

/-- THE TIED CARD OF 'garnerlaw24.QueryLimits'. -/
def queryLimitsCard : Claim7 := { stood := { row := queryLimitsRow, standIns := [], harness := (true, "c21b74b4ed7a06717e2f7244cd990ee91ead1ce1116059e2391e93cc80520178"), looks := true }, kinds := [], alts := [], laidByText := true, laidKinds := [.data, .pinned], laidTests := true, laidLooks := .later }
def QueryLimitsCardSaid : Prop := Claim7.holds Tryz.pinned (.plain (OpenSpec.ofChange queryLimitsSpec)) queryLimitsCard

/-- THE SECOND FORM's CARD OF 'garnerlaw24.QueryParses'. -/
def queryParsesUptoCard : Claim7 := { stood := { row := queryParsesUptoRow, standIns := [], harness := (true, "c21b74b4ed7a06717e2f7244cd990ee91ead1ce1116059e2391e93cc80520178"), looks := true }, kinds := [], alts := [], laidByText := true, laidKinds := [.data, .pinned], laidTests := true, laidLooks := .later }
def QueryParsesUptoCardSaid : Prop := Claim7.holds Tryz.pinned (.plain (OpenSpec.upto queryParsesSpec)) queryParsesUptoCard

/-- THE SECOND FORM's CARD OF 'garnerlaw24.QueryHolds'. -/
def queryHoldsUptoCard : Claim7 := { stood := { row := queryHoldsUptoRow, standIns := [], harness := (true, "c21b74b4ed7a06717e2f7244cd990ee91ead1ce1116059e2391e93cc80520178"), looks := true }, kinds := [], alts := [], laidByText := true, laidKinds := [.data, .pinned], laidTests := true, laidLooks := .later }
def QueryHoldsUptoCardSaid : Prop := Claim7.holds Tryz.pinned (.plain (OpenSpec.upto queryHoldsSpec)) queryHoldsUptoCard

/-- THE SECOND FORM's CARD OF 'garnerlaw24.QueryBack'. -/
def queryBackUptoCard : Claim7 := { stood := { row := queryBackUptoRow, standIns := [], harness := (true, "c21b74b4ed7a06717e2f7244cd990ee91ead1ce1116059e2391e93cc80520178"), looks := true }, kinds := [], alts := [], laidByText := true, laidKinds := [.data, .pinned], laidTests := true, laidLooks := .later }
def QueryBackUptoCardSaid : Prop := Claim7.holds Tryz.pinned (.plain (OpenSpec.upto queryBackSpec)) queryBackUptoCard

/-- THE SECOND FORM's CARD OF 'garnerlaw24.QueryParts'. -/
def queryPartsUptoCard : Claim7 := { stood := { row := queryPartsUptoRow, standIns := [], harness := (true, "c21b74b4ed7a06717e2f7244cd990ee91ead1ce1116059e2391e93cc80520178"), looks := true }, kinds := [], alts := [], laidByText := true, laidKinds := [.data, .pinned], laidTests := true, laidLooks := .later }
def QueryPartsUptoCardSaid : Prop := Claim7.holds Tryz.pinned (.plain (OpenSpec.upto queryPartsSpec)) queryPartsUptoCard

/-- THE SECOND FORM's CARD OF 'garnerlaw24.QueryLimits'. -/
def queryLimitsUptoCard : Claim7 := { stood := { row := queryLimitsUptoRow, standIns := [], harness := (true, "c21b74b4ed7a06717e2f7244cd990ee91ead1ce1116059e2391e93cc80520178"), looks := true }, kinds := [], alts := [], laidByText := true, laidKinds := [.data, .pinned], laidTests := true, laidLooks := .later }
def QueryLimitsUptoCardSaid : Prop := Claim7.holds Tryz.pinned (.plain (OpenSpec.upto queryLimitsSpec)) queryLimitsUptoCard
end Rows
end Go.Proofs.YtnahdpjbddfhgaaGreatDoor
