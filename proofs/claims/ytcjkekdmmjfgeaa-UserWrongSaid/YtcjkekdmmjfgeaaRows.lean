/-
  No cell of these rows narrows 'for every input' (looked for: loops, veiled, ifaces, maps, wideKeys, modest, calm, conditions, laid).
  DERIVED. THE GIVEN ROWS OF THIS SEAT. 12 by the template 'for every input the law returns true; each argument reads behind the call as it read before'; 0 by the template 'total and deterministic' (their statements: YtcjkekdmmjfgeaaTotals.lean).
  GIVEN WITH THE SEED: the statements are not yours to turn. If you find one false, say at which input.
  Laid BY PROGRAM, IN A SANDBOX (cutbox-rows.mjs): the forced cells as the released guide's own fill.sh prints them over the translation 303691d5877bb3ff… (all of the seat's roots in one cut). By AI agents, Wed Nov 11 2026. No macro, syntax, notation, axiom, sorry.
-/
import Derived.Test.YtcjkekdmmjfgeaaChecked
import GoSem.Claim
import GoSem.ClaimJoined
import GoSem.ClaimMapViews
import Derived.JoinedTies
import Derived.KernelRfl
namespace Go.Proofs.Ytcjkekdmmjfgeaa
/- THE CELL 'sum', in the pinned program and in every row, IS THE sha256 OF THE DUMP (.gsa) THAT YtcjkekdmmjfgeaaProg.lean LOADS. Nothing in Lean hashes anything: it is a label: what it is worth is what the hold of that sum in a sandbox is worth. -/
noncomputable def Try.pinned : Pinned := { name := "ytcjkekdmmjfgeaa", sum := "303691d5877bb3ff042409c0b7a85deae7f6cce0341670cbce05d664e308914f", checked := Try.checked }
namespace Rows
def none {H : Type} : Left H := { results := [], args := [] }

/-- 'donjonlaw8.HashJoins': WHATEVER THE INPUT: true; the input reads as it did. -/
def hashJoinsSpec : ChangeSpec := { name := "hashJoins", fn := fun _ => fun
  | [d1, d2, d3, d4] => { results := [.lit (.bool true)], args := [d1, d2, d3, d4] }
  | _ => none }
def hashJoinsRow : OpenClaim := { program := "ytcjkekdmmjfgeaa", sum := "303691d5877bb3ff042409c0b7a85deae7f6cce0341670cbce05d664e308914f", func := "donjon/donjonlaw8.HashJoins", spec := "hashJoins", apart := false }
def HashJoinsSaid : Prop := hashJoinsRow.holds Try.pinned (OpenSpec.ofChange hashJoinsSpec)

/-- ITS FALSE NEIGHBOUR: 'it returns false'. Refute it at one input. -/
def hashJoinsWrong : ChangeSpec := { name := "hashJoins", fn := fun _ => fun
  | [d1, d2, d3, d4] => { results := [.lit (.bool false)], args := [d1, d2, d3, d4] }
  | _ => none }
def HashJoinsWrongFalsely : Prop := hashJoinsRow.holds Try.pinned (OpenSpec.ofChange hashJoinsWrong)

/-- 'donjonlaw8.HashAsks': WHATEVER THE INPUT: true; the input reads as it did. -/
def hashAsksSpec : ChangeSpec := { name := "hashAsks", fn := fun _ => fun
  | [d1, d2, d3, d4] => { results := [.lit (.bool true)], args := [d1, d2, d3, d4] }
  | _ => none }
def hashAsksRow : OpenClaim := { program := "ytcjkekdmmjfgeaa", sum := "303691d5877bb3ff042409c0b7a85deae7f6cce0341670cbce05d664e308914f", func := "donjon/donjonlaw8.HashAsks", spec := "hashAsks", apart := false }
def HashAsksSaid : Prop := hashAsksRow.holds Try.pinned (OpenSpec.ofChange hashAsksSpec)

/-- ITS FALSE NEIGHBOUR: 'it returns false'. Refute it at one input. -/
def hashAsksWrong : ChangeSpec := { name := "hashAsks", fn := fun _ => fun
  | [d1, d2, d3, d4] => { results := [.lit (.bool false)], args := [d1, d2, d3, d4] }
  | _ => none }
def HashAsksWrongFalsely : Prop := hashAsksRow.holds Try.pinned (OpenSpec.ofChange hashAsksWrong)

/-- 'donjonlaw8.HashSalts': WHATEVER THE INPUT: true; the input reads as it did. -/
def hashSaltsSpec : ChangeSpec := { name := "hashSalts", fn := fun _ => fun
  | [d1, d2, d3] => { results := [.lit (.bool true)], args := [d1, d2, d3] }
  | _ => none }
def hashSaltsRow : OpenClaim := { program := "ytcjkekdmmjfgeaa", sum := "303691d5877bb3ff042409c0b7a85deae7f6cce0341670cbce05d664e308914f", func := "donjon/donjonlaw8.HashSalts", spec := "hashSalts", apart := false }
def HashSaltsSaid : Prop := hashSaltsRow.holds Try.pinned (OpenSpec.ofChange hashSaltsSpec)

/-- ITS FALSE NEIGHBOUR: 'it returns false'. Refute it at one input. -/
def hashSaltsWrong : ChangeSpec := { name := "hashSalts", fn := fun _ => fun
  | [d1, d2, d3] => { results := [.lit (.bool false)], args := [d1, d2, d3] }
  | _ => none }
def HashSaltsWrongFalsely : Prop := hashSaltsRow.holds Try.pinned (OpenSpec.ofChange hashSaltsWrong)

/-- 'donjonlaw15.IsaPointers': WHATEVER THE INPUT: true; the input reads as it did. -/
def isaPointersSpec : ChangeSpec := { name := "isaPointers", fn := fun _ => fun
  | [d1, d2] => { results := [.lit (.bool true)], args := [d1, d2] }
  | _ => none }
def isaPointersRow : OpenClaim := { program := "ytcjkekdmmjfgeaa", sum := "303691d5877bb3ff042409c0b7a85deae7f6cce0341670cbce05d664e308914f", func := "donjon/donjonlaw15.IsaPointers", spec := "isaPointers", apart := false }
def IsaPointersSaid : Prop := isaPointersRow.holds Try.pinned (OpenSpec.ofChange isaPointersSpec)

/-- ITS FALSE NEIGHBOUR: 'it returns false'. Refute it at one input. -/
def isaPointersWrong : ChangeSpec := { name := "isaPointers", fn := fun _ => fun
  | [d1, d2] => { results := [.lit (.bool false)], args := [d1, d2] }
  | _ => none }
def IsaPointersWrongFalsely : Prop := isaPointersRow.holds Try.pinned (OpenSpec.ofChange isaPointersWrong)

/-- 'donjonlaw15.IsaWords': WHATEVER THE INPUT: true; the input reads as it did. -/
def isaWordsSpec : ChangeSpec := { name := "isaWords", fn := fun _ => fun
  | [d1, d2] => { results := [.lit (.bool true)], args := [d1, d2] }
  | _ => none }
def isaWordsRow : OpenClaim := { program := "ytcjkekdmmjfgeaa", sum := "303691d5877bb3ff042409c0b7a85deae7f6cce0341670cbce05d664e308914f", func := "donjon/donjonlaw15.IsaWords", spec := "isaWords", apart := false }
def IsaWordsSaid : Prop := isaWordsRow.holds Try.pinned (OpenSpec.ofChange isaWordsSpec)

/-- ITS FALSE NEIGHBOUR: 'it returns false'. Refute it at one input. -/
def isaWordsWrong : ChangeSpec := { name := "isaWords", fn := fun _ => fun
  | [d1, d2] => { results := [.lit (.bool false)], args := [d1, d2] }
  | _ => none }
def IsaWordsWrongFalsely : Prop := isaWordsRow.holds Try.pinned (OpenSpec.ofChange isaWordsWrong)

/-- 'donjonlaw15.IsaFields': WHATEVER THE INPUT: true; the input reads as it did. -/
def isaFieldsSpec : ChangeSpec := { name := "isaFields", fn := fun _ => fun
  | [d1, d2] => { results := [.lit (.bool true)], args := [d1, d2] }
  | _ => none }
def isaFieldsRow : OpenClaim := { program := "ytcjkekdmmjfgeaa", sum := "303691d5877bb3ff042409c0b7a85deae7f6cce0341670cbce05d664e308914f", func := "donjon/donjonlaw15.IsaFields", spec := "isaFields", apart := false }
def IsaFieldsSaid : Prop := isaFieldsRow.holds Try.pinned (OpenSpec.ofChange isaFieldsSpec)

/-- ITS FALSE NEIGHBOUR: 'it returns false'. Refute it at one input. -/
def isaFieldsWrong : ChangeSpec := { name := "isaFields", fn := fun _ => fun
  | [d1, d2] => { results := [.lit (.bool false)], args := [d1, d2] }
  | _ => none }
def IsaFieldsWrongFalsely : Prop := isaFieldsRow.holds Try.pinned (OpenSpec.ofChange isaFieldsWrong)

/-- 'donjonlaw9.UserLower': WHATEVER THE INPUT: true; the input reads as it did. -/
def userLowerSpec : ChangeSpec := { name := "userLower", fn := fun _ => fun
  | [d1, d2, d3, d4] => { results := [.lit (.bool true)], args := [d1, d2, d3, d4] }
  | _ => none }
def userLowerRow : OpenClaim := { program := "ytcjkekdmmjfgeaa", sum := "303691d5877bb3ff042409c0b7a85deae7f6cce0341670cbce05d664e308914f", func := "donjon/donjonlaw9.UserLower", spec := "userLower", unfollowed := true, recurses := true, apart := false }
def UserLowerSaid : Prop := userLowerRow.holds Try.pinned (OpenSpec.ofChange userLowerSpec)

/-- ITS FALSE NEIGHBOUR: 'it returns false'. Refute it at one input. -/
def userLowerWrong : ChangeSpec := { name := "userLower", fn := fun _ => fun
  | [d1, d2, d3, d4] => { results := [.lit (.bool false)], args := [d1, d2, d3, d4] }
  | _ => none }
def UserLowerWrongFalsely : Prop := userLowerRow.holds Try.pinned (OpenSpec.ofChange userLowerWrong)

/-- 'donjonlaw9.UserWrong': WHATEVER THE INPUT: true; the input reads as it did. -/
def userWrongSpec : ChangeSpec := { name := "userWrong", fn := fun _ => fun
  | [d1, d2, d3] => { results := [.lit (.bool true)], args := [d1, d2, d3] }
  | _ => none }
def userWrongRow : OpenClaim := { program := "ytcjkekdmmjfgeaa", sum := "303691d5877bb3ff042409c0b7a85deae7f6cce0341670cbce05d664e308914f", func := "donjon/donjonlaw9.UserWrong", spec := "userWrong", unfollowed := true, recurses := true, apart := false }
def UserWrongSaid : Prop := userWrongRow.holds Try.pinned (OpenSpec.ofChange userWrongSpec)

/-- ITS FALSE NEIGHBOUR: 'it returns false'. Refute it at one input. -/
def userWrongWrong : ChangeSpec := { name := "userWrong", fn := fun _ => fun
  | [d1, d2, d3] => { results := [.lit (.bool false)], args := [d1, d2, d3] }
  | _ => none }
def UserWrongWrongFalsely : Prop := userWrongRow.holds Try.pinned (OpenSpec.ofChange userWrongWrong)

/-- 'donjonlaw9.UserEnters': WHATEVER THE INPUT: true; the input reads as it did. -/
def userEntersSpec : ChangeSpec := { name := "userEnters", fn := fun _ => fun
  | [d1, d2, d3, d4] => { results := [.lit (.bool true)], args := [d1, d2, d3, d4] }
  | _ => none }
def userEntersRow : OpenClaim := { program := "ytcjkekdmmjfgeaa", sum := "303691d5877bb3ff042409c0b7a85deae7f6cce0341670cbce05d664e308914f", func := "donjon/donjonlaw9.UserEnters", spec := "userEnters", unfollowed := true, recurses := true, apart := false }
def UserEntersSaid : Prop := userEntersRow.holds Try.pinned (OpenSpec.ofChange userEntersSpec)

/-- ITS FALSE NEIGHBOUR: 'it returns false'. Refute it at one input. -/
def userEntersWrong : ChangeSpec := { name := "userEnters", fn := fun _ => fun
  | [d1, d2, d3, d4] => { results := [.lit (.bool false)], args := [d1, d2, d3, d4] }
  | _ => none }
def UserEntersWrongFalsely : Prop := userEntersRow.holds Try.pinned (OpenSpec.ofChange userEntersWrong)

/-- 'donjonlaw9.UserOrder': WHATEVER THE INPUT: true; the input reads as it did. -/
def userOrderSpec : ChangeSpec := { name := "userOrder", fn := fun _ => fun
  | [d1, d2, d3] => { results := [.lit (.bool true)], args := [d1, d2, d3] }
  | _ => none }
def userOrderRow : OpenClaim := { program := "ytcjkekdmmjfgeaa", sum := "303691d5877bb3ff042409c0b7a85deae7f6cce0341670cbce05d664e308914f", func := "donjon/donjonlaw9.UserOrder", spec := "userOrder", unfollowed := true, recurses := true, apart := false }
def UserOrderSaid : Prop := userOrderRow.holds Try.pinned (OpenSpec.ofChange userOrderSpec)

/-- ITS FALSE NEIGHBOUR: 'it returns false'. Refute it at one input. -/
def userOrderWrong : ChangeSpec := { name := "userOrder", fn := fun _ => fun
  | [d1, d2, d3] => { results := [.lit (.bool false)], args := [d1, d2, d3] }
  | _ => none }
def UserOrderWrongFalsely : Prop := userOrderRow.holds Try.pinned (OpenSpec.ofChange userOrderWrong)

/-- 'donjonlaw5.AclChecks': WHATEVER THE INPUT: true; the input reads as it did. -/
def aclChecksSpec : ChangeSpec := { name := "aclChecks", fn := fun _ => fun
  | [d1, d2] => { results := [.lit (.bool true)], args := [d1, d2] }
  | _ => none }
def aclChecksRow : OpenClaim := { program := "ytcjkekdmmjfgeaa", sum := "303691d5877bb3ff042409c0b7a85deae7f6cce0341670cbce05d664e308914f", func := "donjon/donjonlaw5.AclChecks", spec := "aclChecks", unfollowed := true, recurses := true, apart := false }
def AclChecksSaid : Prop := aclChecksRow.holds Try.pinned (OpenSpec.ofChange aclChecksSpec)

/-- ITS FALSE NEIGHBOUR: 'it returns false'. Refute it at one input. -/
def aclChecksWrong : ChangeSpec := { name := "aclChecks", fn := fun _ => fun
  | [d1, d2] => { results := [.lit (.bool false)], args := [d1, d2] }
  | _ => none }
def AclChecksWrongFalsely : Prop := aclChecksRow.holds Try.pinned (OpenSpec.ofChange aclChecksWrong)

/-- 'donjonlaw5.AclTurns': WHATEVER THE INPUT: true; the input reads as it did. -/
def aclTurnsSpec : ChangeSpec := { name := "aclTurns", fn := fun _ => fun
  | [d1, d2, d3] => { results := [.lit (.bool true)], args := [d1, d2, d3] }
  | _ => none }
def aclTurnsRow : OpenClaim := { program := "ytcjkekdmmjfgeaa", sum := "303691d5877bb3ff042409c0b7a85deae7f6cce0341670cbce05d664e308914f", func := "donjon/donjonlaw5.AclTurns", spec := "aclTurns", unfollowed := true, recurses := true, apart := false }
def AclTurnsSaid : Prop := aclTurnsRow.holds Try.pinned (OpenSpec.ofChange aclTurnsSpec)

/-- ITS FALSE NEIGHBOUR: 'it returns false'. Refute it at one input. -/
def aclTurnsWrong : ChangeSpec := { name := "aclTurns", fn := fun _ => fun
  | [d1, d2, d3] => { results := [.lit (.bool false)], args := [d1, d2, d3] }
  | _ => none }
def AclTurnsWrongFalsely : Prop := aclTurnsRow.holds Try.pinned (OpenSpec.ofChange aclTurnsWrong)

/- THE SECOND FORM. 'bulk': how many values and letters a reading holds, each counted each time it is reached (what is shared counts as often as it is met; a slice's spare places count too). A statement '..UptoSaid' is the law's where the arguments, and the package variables that the reading takes, are together of bulk at most 1048576: NARROWER than '..Said'. Prove '..Said' where nothing that the law and all that it calls make is longer than what came in: it says more and counts as full. Else prove '..UptoSaid'. A law counts once. -/
mutual
def uptoBulk {H : Type} : DataW H → Nat
  | .lit (.string bytes) => bytes.length + 1
  | .lit _ => 1
  | .nil => 1
  | .ptr d => uptoBulk d + 1
  | .slice elems spare => uptoBulkAll elems + uptoBulkAll spare + 1
  | .agg parts => uptoBulkAll parts + 1
  | .iface _ d => uptoBulk d + 1
  | .map entries => uptoBulkEntries entries + 1
  | .held _ => 1
def uptoBulkAll {H : Type} : List (DataW H) → Nat
  | [] => 0
  | d :: r => uptoBulk d + uptoBulkAll r
def uptoBulkEntries {H : Type} : List (Lit × DataW H) → Nat
  | [] => 0
  | x :: r => uptoBulkEntry x + uptoBulkEntries r
def uptoBulkEntry {H : Type} : Lit × DataW H → Nat
  | (.string bytes, d) => bytes.length + uptoBulk d + 1
  | (_, d) => uptoBulk d + 1
 end
def uptoSmall : (H : Type) → List (DataW H) → Bool := fun _ ds => decide (uptoBulkAll ds ≤ 1048576)
def OpenSpec.upto (s : _root_.Go.ChangeSpec) : _root_.Go.OpenSpec := { _root_.Go.OpenSpec.ofChange s with cond := some uptoSmall }

/-- 'donjonlaw8.HashJoins', WHERE WHAT IT READS IS OF BULK AT MOST 1048576: true; the input reads as it did. -/
def hashJoinsUptoRow : OpenClaim := { program := "ytcjkekdmmjfgeaa", sum := "303691d5877bb3ff042409c0b7a85deae7f6cce0341670cbce05d664e308914f", func := "donjon/donjonlaw8.HashJoins", spec := "hashJoins", apart := false, narrowed := true }
def HashJoinsUptoSaid : Prop := hashJoinsUptoRow.holds Try.pinned (OpenSpec.upto hashJoinsSpec)

/-- 'donjonlaw8.HashAsks', WHERE WHAT IT READS IS OF BULK AT MOST 1048576: true; the input reads as it did. -/
def hashAsksUptoRow : OpenClaim := { program := "ytcjkekdmmjfgeaa", sum := "303691d5877bb3ff042409c0b7a85deae7f6cce0341670cbce05d664e308914f", func := "donjon/donjonlaw8.HashAsks", spec := "hashAsks", apart := false, narrowed := true }
def HashAsksUptoSaid : Prop := hashAsksUptoRow.holds Try.pinned (OpenSpec.upto hashAsksSpec)

/-- 'donjonlaw8.HashSalts', WHERE WHAT IT READS IS OF BULK AT MOST 1048576: true; the input reads as it did. -/
def hashSaltsUptoRow : OpenClaim := { program := "ytcjkekdmmjfgeaa", sum := "303691d5877bb3ff042409c0b7a85deae7f6cce0341670cbce05d664e308914f", func := "donjon/donjonlaw8.HashSalts", spec := "hashSalts", apart := false, narrowed := true }
def HashSaltsUptoSaid : Prop := hashSaltsUptoRow.holds Try.pinned (OpenSpec.upto hashSaltsSpec)

/-- 'donjonlaw15.IsaPointers', WHERE WHAT IT READS IS OF BULK AT MOST 1048576: true; the input reads as it did. -/
def isaPointersUptoRow : OpenClaim := { program := "ytcjkekdmmjfgeaa", sum := "303691d5877bb3ff042409c0b7a85deae7f6cce0341670cbce05d664e308914f", func := "donjon/donjonlaw15.IsaPointers", spec := "isaPointers", apart := false, narrowed := true }
def IsaPointersUptoSaid : Prop := isaPointersUptoRow.holds Try.pinned (OpenSpec.upto isaPointersSpec)

/-- 'donjonlaw15.IsaWords', WHERE WHAT IT READS IS OF BULK AT MOST 1048576: true; the input reads as it did. -/
def isaWordsUptoRow : OpenClaim := { program := "ytcjkekdmmjfgeaa", sum := "303691d5877bb3ff042409c0b7a85deae7f6cce0341670cbce05d664e308914f", func := "donjon/donjonlaw15.IsaWords", spec := "isaWords", apart := false, narrowed := true }
def IsaWordsUptoSaid : Prop := isaWordsUptoRow.holds Try.pinned (OpenSpec.upto isaWordsSpec)

/-- 'donjonlaw15.IsaFields', WHERE WHAT IT READS IS OF BULK AT MOST 1048576: true; the input reads as it did. -/
def isaFieldsUptoRow : OpenClaim := { program := "ytcjkekdmmjfgeaa", sum := "303691d5877bb3ff042409c0b7a85deae7f6cce0341670cbce05d664e308914f", func := "donjon/donjonlaw15.IsaFields", spec := "isaFields", apart := false, narrowed := true }
def IsaFieldsUptoSaid : Prop := isaFieldsUptoRow.holds Try.pinned (OpenSpec.upto isaFieldsSpec)

/-- 'donjonlaw9.UserLower', WHERE WHAT IT READS IS OF BULK AT MOST 1048576: true; the input reads as it did. -/
def userLowerUptoRow : OpenClaim := { program := "ytcjkekdmmjfgeaa", sum := "303691d5877bb3ff042409c0b7a85deae7f6cce0341670cbce05d664e308914f", func := "donjon/donjonlaw9.UserLower", spec := "userLower", unfollowed := true, recurses := true, apart := false, narrowed := true }
def UserLowerUptoSaid : Prop := userLowerUptoRow.holds Try.pinned (OpenSpec.upto userLowerSpec)

/-- 'donjonlaw9.UserWrong', WHERE WHAT IT READS IS OF BULK AT MOST 1048576: true; the input reads as it did. -/
def userWrongUptoRow : OpenClaim := { program := "ytcjkekdmmjfgeaa", sum := "303691d5877bb3ff042409c0b7a85deae7f6cce0341670cbce05d664e308914f", func := "donjon/donjonlaw9.UserWrong", spec := "userWrong", unfollowed := true, recurses := true, apart := false, narrowed := true }
def UserWrongUptoSaid : Prop := userWrongUptoRow.holds Try.pinned (OpenSpec.upto userWrongSpec)

/-- 'donjonlaw9.UserEnters', WHERE WHAT IT READS IS OF BULK AT MOST 1048576: true; the input reads as it did. -/
def userEntersUptoRow : OpenClaim := { program := "ytcjkekdmmjfgeaa", sum := "303691d5877bb3ff042409c0b7a85deae7f6cce0341670cbce05d664e308914f", func := "donjon/donjonlaw9.UserEnters", spec := "userEnters", unfollowed := true, recurses := true, apart := false, narrowed := true }
def UserEntersUptoSaid : Prop := userEntersUptoRow.holds Try.pinned (OpenSpec.upto userEntersSpec)

/-- 'donjonlaw9.UserOrder', WHERE WHAT IT READS IS OF BULK AT MOST 1048576: true; the input reads as it did. -/
def userOrderUptoRow : OpenClaim := { program := "ytcjkekdmmjfgeaa", sum := "303691d5877bb3ff042409c0b7a85deae7f6cce0341670cbce05d664e308914f", func := "donjon/donjonlaw9.UserOrder", spec := "userOrder", unfollowed := true, recurses := true, apart := false, narrowed := true }
def UserOrderUptoSaid : Prop := userOrderUptoRow.holds Try.pinned (OpenSpec.upto userOrderSpec)

/-- 'donjonlaw5.AclChecks', WHERE WHAT IT READS IS OF BULK AT MOST 1048576: true; the input reads as it did. -/
def aclChecksUptoRow : OpenClaim := { program := "ytcjkekdmmjfgeaa", sum := "303691d5877bb3ff042409c0b7a85deae7f6cce0341670cbce05d664e308914f", func := "donjon/donjonlaw5.AclChecks", spec := "aclChecks", unfollowed := true, recurses := true, apart := false, narrowed := true }
def AclChecksUptoSaid : Prop := aclChecksUptoRow.holds Try.pinned (OpenSpec.upto aclChecksSpec)

/-- 'donjonlaw5.AclTurns', WHERE WHAT IT READS IS OF BULK AT MOST 1048576: true; the input reads as it did. -/
def aclTurnsUptoRow : OpenClaim := { program := "ytcjkekdmmjfgeaa", sum := "303691d5877bb3ff042409c0b7a85deae7f6cce0341670cbce05d664e308914f", func := "donjon/donjonlaw5.AclTurns", spec := "aclTurns", unfollowed := true, recurses := true, apart := false, narrowed := true }
def AclTurnsUptoSaid : Prop := aclTurnsUptoRow.holds Try.pinned (OpenSpec.upto aclTurnsSpec)

end Rows
end Go.Proofs.Ytcjkekdmmjfgeaa
