/-
  DERIVED. GIVEN WITH THE SEED: THE CARDS: each row of YtihknjmibnonjaaDoorRows.lean that lists a variable, with what it lists TIED to the program's text (the seventh form; the later family's looks); each row that meets fmt, with fmt's text TOLD by the authors' own Lean function (tested against real Go, not proved from fmt's source: count such statements apart). THE CARD IS WHAT COUNTS. Prove the row's statement (the work); the ties are given (YtihknjmibnonjaaDoorTie.lean); close each card by the builder's one call (the guide's Derived/Test/ToyasCard.lean, 'card_holds'). Laid BY PROGRAM, IN A SANDBOX (cutbox-door.mjs). By AI agents, Wed Nov 11 2026. No macro, syntax, notation, axiom, sorry.
-/
import Derived.Test.YtihknjmibnonjaaDoorRows
import GoSem.ClaimSeven
namespace Go.Proofs.YtihknjmibnonjaaDoor
namespace Rows

/-- THE TIED CARD OF 'donjonlaw14.AuditFull'. -/
def auditFullCard : Claim7 := { stood := { row := auditFullRow, standIns := [], harness := (true, "5a020e2e63916183fac984277ca4886b605b4edce9ee4dd7bb5ad9c99e0942e8"), looks := false }, kinds := [], alts := [], laidByText := true, laidKinds := [.data, .data, .data], laidTests := true, laidLooks := .later }
def AuditFullCardSaid : Prop := Claim7.holds Tryd.pinned (.plain (OpenSpec.ofChange auditFullSpec)) auditFullCard

/-- THE TIED CARD OF 'donjonlaw14.AuditChains'. -/
def auditChainsCard : Claim7 := { stood := { row := auditChainsRow, standIns := [], harness := (true, "5a020e2e63916183fac984277ca4886b605b4edce9ee4dd7bb5ad9c99e0942e8"), looks := false }, kinds := [], alts := [], laidByText := true, laidKinds := [.data, .data, .data], laidTests := true, laidLooks := .later }
def AuditChainsCardSaid : Prop := Claim7.holds Tryd.pinned (.plain (OpenSpec.ofChange auditChainsSpec)) auditChainsCard

/-- THE TIED CARD OF 'donjonlaw14.AuditStays'. -/
def auditStaysCard : Claim7 := { stood := { row := auditStaysRow, standIns := [], harness := (true, "5a020e2e63916183fac984277ca4886b605b4edce9ee4dd7bb5ad9c99e0942e8"), looks := false }, kinds := [], alts := [], laidByText := true, laidKinds := [.data, .data, .data], laidTests := true, laidLooks := .later }
def AuditStaysCardSaid : Prop := Claim7.holds Tryd.pinned (.plain (OpenSpec.ofChange auditStaysSpec)) auditStaysCard

/-- THE TIED CARD OF 'donjonlaw14.AuditBounds'. -/
def auditBoundsCard : Claim7 := { stood := { row := auditBoundsRow, standIns := [], harness := (true, "5a020e2e63916183fac984277ca4886b605b4edce9ee4dd7bb5ad9c99e0942e8"), looks := false }, kinds := [], alts := [], laidByText := true, laidKinds := [.data, .data, .data], laidTests := true, laidLooks := .later }
def AuditBoundsCardSaid : Prop := Claim7.holds Tryd.pinned (.plain (OpenSpec.ofChange auditBoundsSpec)) auditBoundsCard

/-- THE TIED CARD OF 'donjonlaw14.AuditPlays'. -/
def auditPlaysCard : Claim7 := { stood := { row := auditPlaysRow, standIns := [], harness := (true, "5a020e2e63916183fac984277ca4886b605b4edce9ee4dd7bb5ad9c99e0942e8"), looks := false }, kinds := [], alts := [], laidByText := true, laidKinds := [.data, .data, .data], laidTests := true, laidLooks := .later }
def AuditPlaysCardSaid : Prop := Claim7.holds Tryd.pinned (.plain (OpenSpec.ofChange auditPlaysSpec)) auditPlaysCard

/-- THE SECOND FORM's CARD OF 'donjonlaw14.AuditFull'. -/
def auditFullUptoCard : Claim7 := { stood := { row := auditFullUptoRow, standIns := [], harness := (true, "5a020e2e63916183fac984277ca4886b605b4edce9ee4dd7bb5ad9c99e0942e8"), looks := false }, kinds := [], alts := [], laidByText := true, laidKinds := [.data, .data, .data], laidTests := true, laidLooks := .later }
def AuditFullUptoCardSaid : Prop := Claim7.holds Tryd.pinned (.plain (OpenSpec.upto auditFullSpec)) auditFullUptoCard

/-- THE SECOND FORM's CARD OF 'donjonlaw14.AuditChains'. -/
def auditChainsUptoCard : Claim7 := { stood := { row := auditChainsUptoRow, standIns := [], harness := (true, "5a020e2e63916183fac984277ca4886b605b4edce9ee4dd7bb5ad9c99e0942e8"), looks := false }, kinds := [], alts := [], laidByText := true, laidKinds := [.data, .data, .data], laidTests := true, laidLooks := .later }
def AuditChainsUptoCardSaid : Prop := Claim7.holds Tryd.pinned (.plain (OpenSpec.upto auditChainsSpec)) auditChainsUptoCard

/-- THE SECOND FORM's CARD OF 'donjonlaw14.AuditStays'. -/
def auditStaysUptoCard : Claim7 := { stood := { row := auditStaysUptoRow, standIns := [], harness := (true, "5a020e2e63916183fac984277ca4886b605b4edce9ee4dd7bb5ad9c99e0942e8"), looks := false }, kinds := [], alts := [], laidByText := true, laidKinds := [.data, .data, .data], laidTests := true, laidLooks := .later }
def AuditStaysUptoCardSaid : Prop := Claim7.holds Tryd.pinned (.plain (OpenSpec.upto auditStaysSpec)) auditStaysUptoCard

/-- THE SECOND FORM's CARD OF 'donjonlaw14.AuditBounds'. -/
def auditBoundsUptoCard : Claim7 := { stood := { row := auditBoundsUptoRow, standIns := [], harness := (true, "5a020e2e63916183fac984277ca4886b605b4edce9ee4dd7bb5ad9c99e0942e8"), looks := false }, kinds := [], alts := [], laidByText := true, laidKinds := [.data, .data, .data], laidTests := true, laidLooks := .later }
def AuditBoundsUptoCardSaid : Prop := Claim7.holds Tryd.pinned (.plain (OpenSpec.upto auditBoundsSpec)) auditBoundsUptoCard

/-- THE SECOND FORM's CARD OF 'donjonlaw14.AuditPlays'. -/
def auditPlaysUptoCard : Claim7 := { stood := { row := auditPlaysUptoRow, standIns := [], harness := (true, "5a020e2e63916183fac984277ca4886b605b4edce9ee4dd7bb5ad9c99e0942e8"), looks := false }, kinds := [], alts := [], laidByText := true, laidKinds := [.data, .data, .data], laidTests := true, laidLooks := .later }
def AuditPlaysUptoCardSaid : Prop := Claim7.holds Tryd.pinned (.plain (OpenSpec.upto auditPlaysSpec)) auditPlaysUptoCard
end Rows
end Go.Proofs.YtihknjmibnonjaaDoor
