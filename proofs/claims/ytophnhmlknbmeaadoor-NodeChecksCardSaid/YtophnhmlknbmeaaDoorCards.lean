/-
  DERIVED. GIVEN WITH THE SEED: THE CARDS: each row of YtophnhmlknbmeaaDoorRows.lean that lists a variable, with what it lists TIED to the program's text (the seventh form; the later family's looks); each row that meets fmt, with fmt's text TOLD by the authors' own Lean function (tested against real Go, not proved from fmt's source: count such statements apart). THE CARD IS WHAT COUNTS. Prove the row's statement (the work); the ties are given (YtophnhmlknbmeaaDoorTie.lean); close each card by the builder's one call (the guide's Derived/Test/ToyasCard.lean, 'card_holds'). Laid BY PROGRAM, IN A SANDBOX (cutbox-door.mjs). By AI agents, Wed Nov 11 2026. No macro, syntax, notation, axiom, sorry.
-/
import Derived.Test.YtophnhmlknbmeaaDoorRows
import GoSem.ClaimSeven
namespace Go.Proofs.YtophnhmlknbmeaaDoor
namespace Rows

/-- THE TIED CARD OF 'donjonlaw10.NodeChecks'. -/
def nodeChecksCard : Claim7 := { stood := { row := nodeChecksRow, standIns := [], harness := (true, "76f7ca030b2c9dc30caf4b59c6c90fe7bdb08b0425d80f1f11054af2947fb7ed"), looks := false }, kinds := [], alts := [], laidByText := true, laidKinds := [.data, .pinned], laidTests := true, laidLooks := .later }
def NodeChecksCardSaid : Prop := Claim7.holds Tryd.pinned (.plain (OpenSpec.ofChange nodeChecksSpec)) nodeChecksCard

/-- THE TIED CARD OF 'donjonlaw10.NodeRules'. -/
def nodeRulesCard : Claim7 := { stood := { row := nodeRulesRow, standIns := [], harness := (true, "76f7ca030b2c9dc30caf4b59c6c90fe7bdb08b0425d80f1f11054af2947fb7ed"), looks := false }, kinds := [], alts := [], laidByText := true, laidKinds := [.data, .pinned], laidTests := true, laidLooks := .later }
def NodeRulesCardSaid : Prop := Claim7.holds Tryd.pinned (.plain (OpenSpec.ofChange nodeRulesSpec)) nodeRulesCard

/-- THE SECOND FORM's CARD OF 'donjonlaw10.NodeChecks'. -/
def nodeChecksUptoCard : Claim7 := { stood := { row := nodeChecksUptoRow, standIns := [], harness := (true, "76f7ca030b2c9dc30caf4b59c6c90fe7bdb08b0425d80f1f11054af2947fb7ed"), looks := false }, kinds := [], alts := [], laidByText := true, laidKinds := [.data, .pinned], laidTests := true, laidLooks := .later }
def NodeChecksUptoCardSaid : Prop := Claim7.holds Tryd.pinned (.plain (OpenSpec.upto nodeChecksSpec)) nodeChecksUptoCard

/-- THE SECOND FORM's CARD OF 'donjonlaw10.NodeRules'. -/
def nodeRulesUptoCard : Claim7 := { stood := { row := nodeRulesUptoRow, standIns := [], harness := (true, "76f7ca030b2c9dc30caf4b59c6c90fe7bdb08b0425d80f1f11054af2947fb7ed"), looks := false }, kinds := [], alts := [], laidByText := true, laidKinds := [.data, .pinned], laidTests := true, laidLooks := .later }
def NodeRulesUptoCardSaid : Prop := Claim7.holds Tryd.pinned (.plain (OpenSpec.upto nodeRulesSpec)) nodeRulesUptoCard
end Rows
end Go.Proofs.YtophnhmlknbmeaaDoor
