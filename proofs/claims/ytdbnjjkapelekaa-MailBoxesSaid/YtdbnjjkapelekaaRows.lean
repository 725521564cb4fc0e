/-
  No cell of these rows narrows 'for every input' (looked for: loops, veiled, ifaces, maps, wideKeys, modest, calm, conditions, laid).
  DERIVED. THE GIVEN ROWS OF THIS SEAT. 6 by the template 'for every input the law returns true; each argument reads behind the call as it read before'; 0 by the template 'total and deterministic' (their statements: YtdbnjjkapelekaaTotals.lean).
  GIVEN WITH THE SEED: the statements are not yours to turn. If you find one false, say at which input.
  Laid BY PROGRAM, IN A SANDBOX (cutbox-rows.mjs): the forced cells as the released guide's own fill.sh prints them over the translation 2a5c9e52b22bdcf5… (all of the seat's roots in one cut). By AI agents, Wed Nov 11 2026. No macro, syntax, notation, axiom, sorry.
-/
import Derived.Test.YtdbnjjkapelekaaChecked
import GoSem.Claim
import GoSem.ClaimJoined
import GoSem.ClaimMapViews
import Derived.JoinedTies
import Derived.KernelRfl
namespace Go.Proofs.Ytdbnjjkapelekaa
/- THE CELL 'sum', in the pinned program and in every row, IS THE sha256 OF THE DUMP (.gsa) THAT YtdbnjjkapelekaaProg.lean LOADS. Nothing in Lean hashes anything: it is a label: what it is worth is what the hold of that sum in a sandbox is worth. -/
noncomputable def Try.pinned : Pinned := { name := "ytdbnjjkapelekaa", sum := "2a5c9e52b22bdcf50803559bed321b9c07124e54a734f902495b2c46d1f09309", checked := Try.checked }
namespace Rows
def none {H : Type} : Left H := { results := [], args := [] }

/-- 'donjonlaw18.MailLimits': WHATEVER THE INPUT: true; the input reads as it did. -/
def mailLimitsSpec : ChangeSpec := { name := "mailLimits", fn := fun _ => fun
  | [d1, d2, d3] => { results := [.lit (.bool true)], args := [d1, d2, d3] }
  | _ => none }
def mailLimitsRow : OpenClaim := { program := "ytdbnjjkapelekaa", sum := "2a5c9e52b22bdcf50803559bed321b9c07124e54a734f902495b2c46d1f09309", func := "donjon/donjonlaw18.MailLimits", spec := "mailLimits", apart := false }
def MailLimitsSaid : Prop := mailLimitsRow.holds Try.pinned (OpenSpec.ofChange mailLimitsSpec)

/-- ITS FALSE NEIGHBOUR: 'it returns false'. Refute it at one input. -/
def mailLimitsWrong : ChangeSpec := { name := "mailLimits", fn := fun _ => fun
  | [d1, d2, d3] => { results := [.lit (.bool false)], args := [d1, d2, d3] }
  | _ => none }
def MailLimitsWrongFalsely : Prop := mailLimitsRow.holds Try.pinned (OpenSpec.ofChange mailLimitsWrong)

/-- 'donjonlaw18.MailBoxes': WHATEVER THE INPUT: true; the input reads as it did. -/
def mailBoxesSpec : ChangeSpec := { name := "mailBoxes", fn := fun _ => fun
  | [d1, d2, d3, d4, d5] => { results := [.lit (.bool true)], args := [d1, d2, d3, d4, d5] }
  | _ => none }
def mailBoxesRow : OpenClaim := { program := "ytdbnjjkapelekaa", sum := "2a5c9e52b22bdcf50803559bed321b9c07124e54a734f902495b2c46d1f09309", func := "donjon/donjonlaw18.MailBoxes", spec := "mailBoxes", apart := false }
def MailBoxesSaid : Prop := mailBoxesRow.holds Try.pinned (OpenSpec.ofChange mailBoxesSpec)

/-- ITS FALSE NEIGHBOUR: 'it returns false'. Refute it at one input. -/
def mailBoxesWrong : ChangeSpec := { name := "mailBoxes", fn := fun _ => fun
  | [d1, d2, d3, d4, d5] => { results := [.lit (.bool false)], args := [d1, d2, d3, d4, d5] }
  | _ => none }
def MailBoxesWrongFalsely : Prop := mailBoxesRow.holds Try.pinned (OpenSpec.ofChange mailBoxesWrong)

/-- 'donjonlaw18.MailSends': WHATEVER THE INPUT: true; the input reads as it did. -/
def mailSendsSpec : ChangeSpec := { name := "mailSends", fn := fun _ => fun
  | [d1, d2, d3] => { results := [.lit (.bool true)], args := [d1, d2, d3] }
  | _ => none }
def mailSendsRow : OpenClaim := { program := "ytdbnjjkapelekaa", sum := "2a5c9e52b22bdcf50803559bed321b9c07124e54a734f902495b2c46d1f09309", func := "donjon/donjonlaw18.MailSends", spec := "mailSends", inPlace := ["internal/bytealg.IndexByteString", "internal/bytealg.IndexString"], named := ["internal/bytealg.MaxLen"], apart := false }
def MailSendsSaid : Prop := mailSendsRow.holds Try.pinned (OpenSpec.ofChange mailSendsSpec)

/-- ITS FALSE NEIGHBOUR: 'it returns false'. Refute it at one input. -/
def mailSendsWrong : ChangeSpec := { name := "mailSends", fn := fun _ => fun
  | [d1, d2, d3] => { results := [.lit (.bool false)], args := [d1, d2, d3] }
  | _ => none }
def MailSendsWrongFalsely : Prop := mailSendsRow.holds Try.pinned (OpenSpec.ofChange mailSendsWrong)

/-- 'donjonlaw18.MailDown': WHATEVER THE INPUT: true; the input reads as it did. -/
def mailDownSpec : ChangeSpec := { name := "mailDown", fn := fun _ => fun
  | [d1, d2, d3] => { results := [.lit (.bool true)], args := [d1, d2, d3] }
  | _ => none }
def mailDownRow : OpenClaim := { program := "ytdbnjjkapelekaa", sum := "2a5c9e52b22bdcf50803559bed321b9c07124e54a734f902495b2c46d1f09309", func := "donjon/donjonlaw18.MailDown", spec := "mailDown", inPlace := ["internal/bytealg.IndexByteString", "internal/bytealg.IndexString"], named := ["internal/bytealg.MaxLen"], apart := false }
def MailDownSaid : Prop := mailDownRow.holds Try.pinned (OpenSpec.ofChange mailDownSpec)

/-- ITS FALSE NEIGHBOUR: 'it returns false'. Refute it at one input. -/
def mailDownWrong : ChangeSpec := { name := "mailDown", fn := fun _ => fun
  | [d1, d2, d3] => { results := [.lit (.bool false)], args := [d1, d2, d3] }
  | _ => none }
def MailDownWrongFalsely : Prop := mailDownRow.holds Try.pinned (OpenSpec.ofChange mailDownWrong)

/-- 'donjonlaw18.MailWords': WHATEVER THE INPUT: true; the input reads as it did. -/
def mailWordsSpec : ChangeSpec := { name := "mailWords", fn := fun _ => fun
  | [d1, d2, d3] => { results := [.lit (.bool true)], args := [d1, d2, d3] }
  | _ => none }
def mailWordsRow : OpenClaim := { program := "ytdbnjjkapelekaa", sum := "2a5c9e52b22bdcf50803559bed321b9c07124e54a734f902495b2c46d1f09309", func := "donjon/donjonlaw18.MailWords", spec := "mailWords", inPlace := ["internal/bytealg.IndexByteString", "internal/bytealg.IndexString"], named := ["internal/bytealg.MaxLen"], apart := false }
def MailWordsSaid : Prop := mailWordsRow.holds Try.pinned (OpenSpec.ofChange mailWordsSpec)

/-- ITS FALSE NEIGHBOUR: 'it returns false'. Refute it at one input. -/
def mailWordsWrong : ChangeSpec := { name := "mailWords", fn := fun _ => fun
  | [d1, d2, d3] => { results := [.lit (.bool false)], args := [d1, d2, d3] }
  | _ => none }
def MailWordsWrongFalsely : Prop := mailWordsRow.holds Try.pinned (OpenSpec.ofChange mailWordsWrong)

/-- 'donjonlaw18.MailFirst': WHATEVER THE INPUT: true; the input reads as it did. -/
def mailFirstSpec : ChangeSpec := { name := "mailFirst", fn := fun _ => fun
  | [d1, d2, d3, d4] => { results := [.lit (.bool true)], args := [d1, d2, d3, d4] }
  | _ => none }
def mailFirstRow : OpenClaim := { program := "ytdbnjjkapelekaa", sum := "2a5c9e52b22bdcf50803559bed321b9c07124e54a734f902495b2c46d1f09309", func := "donjon/donjonlaw18.MailFirst", spec := "mailFirst", inPlace := ["internal/bytealg.IndexByteString", "internal/bytealg.IndexString"], named := ["internal/bytealg.MaxLen"], apart := false }
def MailFirstSaid : Prop := mailFirstRow.holds Try.pinned (OpenSpec.ofChange mailFirstSpec)

/-- ITS FALSE NEIGHBOUR: 'it returns false'. Refute it at one input. -/
def mailFirstWrong : ChangeSpec := { name := "mailFirst", fn := fun _ => fun
  | [d1, d2, d3, d4] => { results := [.lit (.bool false)], args := [d1, d2, d3, d4] }
  | _ => none }
def MailFirstWrongFalsely : Prop := mailFirstRow.holds Try.pinned (OpenSpec.ofChange mailFirstWrong)

/- THE SECOND FORM. 'bulk': how many values and letters a reading holds, each counted each time it is reached (what is shared counts as often as it is met; a slice's spare places count too). A statement '..UptoSaid' is the law's where the arguments, and the package variables that the reading takes, are together of bulk at most 1048576: NARROWER than '..Said'. Prove '..Said' where nothing that the law and all that it calls make is longer than what came in: it says more and counts as full. Else prove '..UptoSaid'. A law counts once. -/
mutual
def uptoBulk {H : Type} : DataW H → Nat
  | .lit (.string bytes) => bytes.length + 1
  | .lit _ => 1
  | .nil => 1
  | .ptr d => uptoBulk d + 1
  | .slice elems spare => uptoBulkAll elems + uptoBulkAll spare + 1
  | .agg parts => uptoBulkAll parts + 1
  | .iface _ d => uptoBulk d + 1
  | .map entries => uptoBulkEntries entries + 1
  | .held _ => 1
def uptoBulkAll {H : Type} : List (DataW H) → Nat
  | [] => 0
  | d :: r => uptoBulk d + uptoBulkAll r
def uptoBulkEntries {H : Type} : List (Lit × DataW H) → Nat
  | [] => 0
  | x :: r => uptoBulkEntry x + uptoBulkEntries r
def uptoBulkEntry {H : Type} : Lit × DataW H → Nat
  | (.string bytes, d) => bytes.length + uptoBulk d + 1
  | (_, d) => uptoBulk d + 1
 end
def uptoSmall : (H : Type) → List (DataW H) → Bool := fun _ ds => decide (uptoBulkAll ds ≤ 1048576)
def OpenSpec.upto (s : _root_.Go.ChangeSpec) : _root_.Go.OpenSpec := { _root_.Go.OpenSpec.ofChange s with cond := some uptoSmall }

/-- 'donjonlaw18.MailLimits', WHERE WHAT IT READS IS OF BULK AT MOST 1048576: true; the input reads as it did. -/
def mailLimitsUptoRow : OpenClaim := { program := "ytdbnjjkapelekaa", sum := "2a5c9e52b22bdcf50803559bed321b9c07124e54a734f902495b2c46d1f09309", func := "donjon/donjonlaw18.MailLimits", spec := "mailLimits", apart := false, narrowed := true }
def MailLimitsUptoSaid : Prop := mailLimitsUptoRow.holds Try.pinned (OpenSpec.upto mailLimitsSpec)

/-- 'donjonlaw18.MailBoxes', WHERE WHAT IT READS IS OF BULK AT MOST 1048576: true; the input reads as it did. -/
def mailBoxesUptoRow : OpenClaim := { program := "ytdbnjjkapelekaa", sum := "2a5c9e52b22bdcf50803559bed321b9c07124e54a734f902495b2c46d1f09309", func := "donjon/donjonlaw18.MailBoxes", spec := "mailBoxes", apart := false, narrowed := true }
def MailBoxesUptoSaid : Prop := mailBoxesUptoRow.holds Try.pinned (OpenSpec.upto mailBoxesSpec)

/-- 'donjonlaw18.MailSends', WHERE WHAT IT READS IS OF BULK AT MOST 1048576: true; the input reads as it did. -/
def mailSendsUptoRow : OpenClaim := { program := "ytdbnjjkapelekaa", sum := "2a5c9e52b22bdcf50803559bed321b9c07124e54a734f902495b2c46d1f09309", func := "donjon/donjonlaw18.MailSends", spec := "mailSends", inPlace := ["internal/bytealg.IndexByteString", "internal/bytealg.IndexString"], named := ["internal/bytealg.MaxLen"], apart := false, narrowed := true }
def MailSendsUptoSaid : Prop := mailSendsUptoRow.holds Try.pinned (OpenSpec.upto mailSendsSpec)

/-- 'donjonlaw18.MailDown', WHERE WHAT IT READS IS OF BULK AT MOST 1048576: true; the input reads as it did. -/
def mailDownUptoRow : OpenClaim := { program := "ytdbnjjkapelekaa", sum := "2a5c9e52b22bdcf50803559bed321b9c07124e54a734f902495b2c46d1f09309", func := "donjon/donjonlaw18.MailDown", spec := "mailDown", inPlace := ["internal/bytealg.IndexByteString", "internal/bytealg.IndexString"], named := ["internal/bytealg.MaxLen"], apart := false, narrowed := true }
def MailDownUptoSaid : Prop := mailDownUptoRow.holds Try.pinned (OpenSpec.upto mailDownSpec)

/-- 'donjonlaw18.MailWords', WHERE WHAT IT READS IS OF BULK AT MOST 1048576: true; the input reads as it did. -/
def mailWordsUptoRow : OpenClaim := { program := "ytdbnjjkapelekaa", sum := "2a5c9e52b22bdcf50803559bed321b9c07124e54a734f902495b2c46d1f09309", func := "donjon/donjonlaw18.MailWords", spec := "mailWords", inPlace := ["internal/bytealg.IndexByteString", "internal/bytealg.IndexString"], named := ["internal/bytealg.MaxLen"], apart := false, narrowed := true }
def MailWordsUptoSaid : Prop := mailWordsUptoRow.holds Try.pinned (OpenSpec.upto mailWordsSpec)

/-- 'donjonlaw18.MailFirst', WHERE WHAT IT READS IS OF BULK AT MOST 1048576: true; the input reads as it did. -/
def mailFirstUptoRow : OpenClaim := { program := "ytdbnjjkapelekaa", sum := "2a5c9e52b22bdcf50803559bed321b9c07124e54a734f902495b2c46d1f09309", func := "donjon/donjonlaw18.MailFirst", spec := "mailFirst", inPlace := ["internal/bytealg.IndexByteString", "internal/bytealg.IndexString"], named := ["internal/bytealg.MaxLen"], apart := false, narrowed := true }
def MailFirstUptoSaid : Prop := mailFirstUptoRow.holds Try.pinned (OpenSpec.upto mailFirstSpec)

end Rows
end Go.Proofs.Ytdbnjjkapelekaa
