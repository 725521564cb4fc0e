/-
  DERIVED. GIVEN WITH THE SEED: THE CARDS: each row of YtnepinkookbanaaDoorRows.lean that lists a variable, with what it lists TIED to the program's text (the seventh form; the later family's looks); each row that meets fmt, with fmt's text TOLD by the authors' own Lean function (tested against real Go, not proved from fmt's source: count such statements apart). THE CARD IS WHAT COUNTS. Prove the row's statement (the work); the ties are given (YtnepinkookbanaaDoorTie.lean); close each card by the builder's one call (the guide's Derived/Test/ToyasCard.lean, 'card_holds'). Laid BY PROGRAM, IN A SANDBOX (cutbox-door.mjs). By AI agents, Wed Nov 11 2026. No macro, syntax, notation, axiom, sorry.
-/
import Derived.Test.YtnepinkookbanaaDoorRows
import GoSem.ClaimSeven
namespace Go.Proofs.YtnepinkookbanaaDoor
namespace Rows

/-- THE TIED CARD OF 'donjonlaw4.LabelOrder'. -/
def labelOrderCard : Claim7 := { stood := { row := labelOrderRow, standIns := [], harness := (true, "ff4636ae8d0abcc33e1d6e372bd6ce4bb62dce0fbae9546e81d059ace2940835"), looks := true }, kinds := [], alts := [], laidByText := true, laidKinds := [.data, .data, .data], laidTests := true, laidLooks := .later }
def LabelOrderCardSaid : Prop := Claim7.holds Tryd.pinned (.plain (OpenSpec.ofChange labelOrderSpec)) labelOrderCard

/-- THE TIED CARD OF 'donjonlaw4.LabelJoins'. -/
def labelJoinsCard : Claim7 := { stood := { row := labelJoinsRow, standIns := [], harness := (true, "ff4636ae8d0abcc33e1d6e372bd6ce4bb62dce0fbae9546e81d059ace2940835"), looks := true }, kinds := [], alts := [], laidByText := true, laidKinds := [.data, .data, .data], laidTests := true, laidLooks := .later }
def LabelJoinsCardSaid : Prop := Claim7.holds Tryd.pinned (.plain (OpenSpec.ofChange labelJoinsSpec)) labelJoinsCard

/-- THE TIED CARD OF 'donjonlaw4.LabelLess'. -/
def labelLessCard : Claim7 := { stood := { row := labelLessRow, standIns := [], harness := (true, "ff4636ae8d0abcc33e1d6e372bd6ce4bb62dce0fbae9546e81d059ace2940835"), looks := true }, kinds := [], alts := [], laidByText := true, laidKinds := [.data, .data, .data], laidTests := true, laidLooks := .later }
def LabelLessCardSaid : Prop := Claim7.holds Tryd.pinned (.plain (OpenSpec.ofChange labelLessSpec)) labelLessCard

/-- THE TIED CARD OF 'donjonlaw4.LabelLattice'. -/
def labelLatticeCard : Claim7 := { stood := { row := labelLatticeRow, standIns := [], harness := (true, "ff4636ae8d0abcc33e1d6e372bd6ce4bb62dce0fbae9546e81d059ace2940835"), looks := true }, kinds := [], alts := [], laidByText := true, laidKinds := [.data, .data, .data], laidTests := true, laidLooks := .later }
def LabelLatticeCardSaid : Prop := Claim7.holds Tryd.pinned (.plain (OpenSpec.ofChange labelLatticeSpec)) labelLatticeCard

/-- THE TIED CARD OF 'donjonlaw4.LabelSteps'. -/
def labelStepsCard : Claim7 := { stood := { row := labelStepsRow, standIns := [], harness := (true, "ff4636ae8d0abcc33e1d6e372bd6ce4bb62dce0fbae9546e81d059ace2940835"), looks := true }, kinds := [], alts := [], laidByText := true, laidKinds := [.data, .data, .data], laidTests := true, laidLooks := .later }
def LabelStepsCardSaid : Prop := Claim7.holds Tryd.pinned (.plain (OpenSpec.ofChange labelStepsSpec)) labelStepsCard

/-- THE TIED CARD OF 'donjonlaw4.LabelTexts'. -/
def labelTextsCard : Claim7 := { stood := { row := labelTextsRow, standIns := [], harness := (true, "ff4636ae8d0abcc33e1d6e372bd6ce4bb62dce0fbae9546e81d059ace2940835"), looks := true }, kinds := [], alts := [], laidByText := true, laidKinds := [.data, .data, .data, .data, .sentinel, .sentinel, .pinned], laidTests := true, laidLooks := .later }
def LabelTextsCardSaid : Prop := Claim7.holds Tryd.pinned (.plain (OpenSpec.ofChange labelTextsSpec)) labelTextsCard

/-- THE TIED CARD OF 'donjonlaw4.LabelBounds'. -/
def labelBoundsCard : Claim7 := { stood := { row := labelBoundsRow, standIns := [], harness := (true, "ff4636ae8d0abcc33e1d6e372bd6ce4bb62dce0fbae9546e81d059ace2940835"), looks := true }, kinds := [], alts := [], laidByText := true, laidKinds := [.data, .data, .data, .data, .sentinel, .sentinel, .pinned], laidTests := true, laidLooks := .later }
def LabelBoundsCardSaid : Prop := Claim7.holds Tryd.pinned (.plain (OpenSpec.ofChange labelBoundsSpec)) labelBoundsCard

/-- THE TIED CARD OF 'donjonlaw4.LabelAsks'. -/
def labelAsksCard : Claim7 := { stood := { row := labelAsksRow, standIns := [], harness := (true, "ff4636ae8d0abcc33e1d6e372bd6ce4bb62dce0fbae9546e81d059ace2940835"), looks := true }, kinds := [], alts := [], laidByText := true, laidKinds := [.data, .data, .data, .data, .sentinel, .sentinel, .pinned], laidTests := true, laidLooks := .later }
def LabelAsksCardSaid : Prop := Claim7.holds Tryd.pinned (.plain (OpenSpec.ofChange labelAsksSpec)) labelAsksCard

/-- THE TIED CARD OF 'donjonlaw15.IsaTexts'. -/
def isaTextsCard : Claim7 := { stood := { row := isaTextsRow, standIns := [], harness := (true, "ff4636ae8d0abcc33e1d6e372bd6ce4bb62dce0fbae9546e81d059ace2940835"), looks := true }, kinds := [], alts := [], laidByText := true, laidKinds := [.data, .data, .data, .data, .sentinel, .sentinel, .pinned], laidTests := true, laidLooks := .later }
def IsaTextsCardSaid : Prop := Claim7.holds Tryd.pinned (.plain (OpenSpec.ofChange isaTextsSpec)) isaTextsCard

/-- THE TIED CARD OF 'donjonlaw15.IsaBounds'. -/
def isaBoundsCard : Claim7 := { stood := { row := isaBoundsRow, standIns := [], harness := (true, "ff4636ae8d0abcc33e1d6e372bd6ce4bb62dce0fbae9546e81d059ace2940835"), looks := true }, kinds := [], alts := [], laidByText := true, laidKinds := [.data, .data, .data, .data, .sentinel, .sentinel, .pinned], laidTests := true, laidLooks := .later }
def IsaBoundsCardSaid : Prop := Claim7.holds Tryd.pinned (.plain (OpenSpec.ofChange isaBoundsSpec)) isaBoundsCard

/-- THE TIED CARD OF 'donjonlaw15.IsaTurns'. -/
def isaTurnsCard : Claim7 := { stood := { row := isaTurnsRow, standIns := [], harness := (true, "ff4636ae8d0abcc33e1d6e372bd6ce4bb62dce0fbae9546e81d059ace2940835"), looks := true }, kinds := [], alts := [], laidByText := true, laidKinds := [.data, .data, .data, .data, .sentinel, .sentinel, .pinned], laidTests := true, laidLooks := .later }
def IsaTurnsCardSaid : Prop := Claim7.holds Tryd.pinned (.plain (OpenSpec.ofChange isaTurnsSpec)) isaTurnsCard

/-- THE SECOND FORM's CARD OF 'donjonlaw4.LabelOrder'. -/
def labelOrderUptoCard : Claim7 := { stood := { row := labelOrderUptoRow, standIns := [], harness := (true, "ff4636ae8d0abcc33e1d6e372bd6ce4bb62dce0fbae9546e81d059ace2940835"), looks := true }, kinds := [], alts := [], laidByText := true, laidKinds := [.data, .data, .data], laidTests := true, laidLooks := .later }
def LabelOrderUptoCardSaid : Prop := Claim7.holds Tryd.pinned (.plain (OpenSpec.upto labelOrderSpec)) labelOrderUptoCard

/-- THE SECOND FORM's CARD OF 'donjonlaw4.LabelJoins'. -/
def labelJoinsUptoCard : Claim7 := { stood := { row := labelJoinsUptoRow, standIns := [], harness := (true, "ff4636ae8d0abcc33e1d6e372bd6ce4bb62dce0fbae9546e81d059ace2940835"), looks := true }, kinds := [], alts := [], laidByText := true, laidKinds := [.data, .data, .data], laidTests := true, laidLooks := .later }
def LabelJoinsUptoCardSaid : Prop := Claim7.holds Tryd.pinned (.plain (OpenSpec.upto labelJoinsSpec)) labelJoinsUptoCard

/-- THE SECOND FORM's CARD OF 'donjonlaw4.LabelLess'. -/
def labelLessUptoCard : Claim7 := { stood := { row := labelLessUptoRow, standIns := [], harness := (true, "ff4636ae8d0abcc33e1d6e372bd6ce4bb62dce0fbae9546e81d059ace2940835"), looks := true }, kinds := [], alts := [], laidByText := true, laidKinds := [.data, .data, .data], laidTests := true, laidLooks := .later }
def LabelLessUptoCardSaid : Prop := Claim7.holds Tryd.pinned (.plain (OpenSpec.upto labelLessSpec)) labelLessUptoCard

/-- THE SECOND FORM's CARD OF 'donjonlaw4.LabelLattice'. -/
def labelLatticeUptoCard : Claim7 := { stood := { row := labelLatticeUptoRow, standIns := [], harness := (true, "ff4636ae8d0abcc33e1d6e372bd6ce4bb62dce0fbae9546e81d059ace2940835"), looks := true }, kinds := [], alts := [], laidByText := true, laidKinds := [.data, .data, .data], laidTests := true, laidLooks := .later }
def LabelLatticeUptoCardSaid : Prop := Claim7.holds Tryd.pinned (.plain (OpenSpec.upto labelLatticeSpec)) labelLatticeUptoCard

/-- THE SECOND FORM's CARD OF 'donjonlaw4.LabelSteps'. -/
def labelStepsUptoCard : Claim7 := { stood := { row := labelStepsUptoRow, standIns := [], harness := (true, "ff4636ae8d0abcc33e1d6e372bd6ce4bb62dce0fbae9546e81d059ace2940835"), looks := true }, kinds := [], alts := [], laidByText := true, laidKinds := [.data, .data, .data], laidTests := true, laidLooks := .later }
def LabelStepsUptoCardSaid : Prop := Claim7.holds Tryd.pinned (.plain (OpenSpec.upto labelStepsSpec)) labelStepsUptoCard

/-- THE SECOND FORM's CARD OF 'donjonlaw4.LabelTexts'. -/
def labelTextsUptoCard : Claim7 := { stood := { row := labelTextsUptoRow, standIns := [], harness := (true, "ff4636ae8d0abcc33e1d6e372bd6ce4bb62dce0fbae9546e81d059ace2940835"), looks := true }, kinds := [], alts := [], laidByText := true, laidKinds := [.data, .data, .data, .data, .sentinel, .sentinel, .pinned], laidTests := true, laidLooks := .later }
def LabelTextsUptoCardSaid : Prop := Claim7.holds Tryd.pinned (.plain (OpenSpec.upto labelTextsSpec)) labelTextsUptoCard

/-- THE SECOND FORM's CARD OF 'donjonlaw4.LabelBounds'. -/
def labelBoundsUptoCard : Claim7 := { stood := { row := labelBoundsUptoRow, standIns := [], harness := (true, "ff4636ae8d0abcc33e1d6e372bd6ce4bb62dce0fbae9546e81d059ace2940835"), looks := true }, kinds := [], alts := [], laidByText := true, laidKinds := [.data, .data, .data, .data, .sentinel, .sentinel, .pinned], laidTests := true, laidLooks := .later }
def LabelBoundsUptoCardSaid : Prop := Claim7.holds Tryd.pinned (.plain (OpenSpec.upto labelBoundsSpec)) labelBoundsUptoCard

/-- THE SECOND FORM's CARD OF 'donjonlaw4.LabelAsks'. -/
def labelAsksUptoCard : Claim7 := { stood := { row := labelAsksUptoRow, standIns := [], harness := (true, "ff4636ae8d0abcc33e1d6e372bd6ce4bb62dce0fbae9546e81d059ace2940835"), looks := true }, kinds := [], alts := [], laidByText := true, laidKinds := [.data, .data, .data, .data, .sentinel, .sentinel, .pinned], laidTests := true, laidLooks := .later }
def LabelAsksUptoCardSaid : Prop := Claim7.holds Tryd.pinned (.plain (OpenSpec.upto labelAsksSpec)) labelAsksUptoCard

/-- THE SECOND FORM's CARD OF 'donjonlaw15.IsaTexts'. -/
def isaTextsUptoCard : Claim7 := { stood := { row := isaTextsUptoRow, standIns := [], harness := (true, "ff4636ae8d0abcc33e1d6e372bd6ce4bb62dce0fbae9546e81d059ace2940835"), looks := true }, kinds := [], alts := [], laidByText := true, laidKinds := [.data, .data, .data, .data, .sentinel, .sentinel, .pinned], laidTests := true, laidLooks := .later }
def IsaTextsUptoCardSaid : Prop := Claim7.holds Tryd.pinned (.plain (OpenSpec.upto isaTextsSpec)) isaTextsUptoCard

/-- THE SECOND FORM's CARD OF 'donjonlaw15.IsaBounds'. -/
def isaBoundsUptoCard : Claim7 := { stood := { row := isaBoundsUptoRow, standIns := [], harness := (true, "ff4636ae8d0abcc33e1d6e372bd6ce4bb62dce0fbae9546e81d059ace2940835"), looks := true }, kinds := [], alts := [], laidByText := true, laidKinds := [.data, .data, .data, .data, .sentinel, .sentinel, .pinned], laidTests := true, laidLooks := .later }
def IsaBoundsUptoCardSaid : Prop := Claim7.holds Tryd.pinned (.plain (OpenSpec.upto isaBoundsSpec)) isaBoundsUptoCard

/-- THE SECOND FORM's CARD OF 'donjonlaw15.IsaTurns'. -/
def isaTurnsUptoCard : Claim7 := { stood := { row := isaTurnsUptoRow, standIns := [], harness := (true, "ff4636ae8d0abcc33e1d6e372bd6ce4bb62dce0fbae9546e81d059ace2940835"), looks := true }, kinds := [], alts := [], laidByText := true, laidKinds := [.data, .data, .data, .data, .sentinel, .sentinel, .pinned], laidTests := true, laidLooks := .later }
def IsaTurnsUptoCardSaid : Prop := Claim7.holds Tryd.pinned (.plain (OpenSpec.upto isaTurnsSpec)) isaTurnsUptoCard
end Rows
end Go.Proofs.YtnepinkookbanaaDoor
