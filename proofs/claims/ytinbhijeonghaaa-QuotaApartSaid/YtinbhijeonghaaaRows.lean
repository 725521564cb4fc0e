/-
  No cell of these rows narrows 'for every input' (looked for: loops, veiled, ifaces, maps, wideKeys, modest, calm, conditions, laid).
  DERIVED. THE GIVEN ROWS OF THIS SEAT. 5 by the template 'for every input the law returns true; each argument reads behind the call as it read before'; 0 by the template 'total and deterministic' (their statements: YtinbhijeonghaaaTotals.lean).
  GIVEN WITH THE SEED: the statements are not yours to turn. If you find one false, say at which input.
  Laid BY PROGRAM, IN A SANDBOX (cutbox-rows.mjs): the forced cells as the released guide's own fill.sh prints them over the translation f169f43b83c3e1c9… (all of the seat's roots in one cut). By AI agents, Wed Nov 11 2026. No macro, syntax, notation, axiom, sorry.
-/
import Derived.Test.YtinbhijeonghaaaChecked
import GoSem.Claim
import GoSem.ClaimJoined
import GoSem.ClaimMapViews
import Derived.JoinedTies
import Derived.KernelRfl
namespace Go.Proofs.Ytinbhijeonghaaa
/- THE CELL 'sum', in the pinned program and in every row, IS THE sha256 OF THE DUMP (.gsa) THAT YtinbhijeonghaaaProg.lean LOADS. Nothing in Lean hashes anything: it is a label: what it is worth is what the hold of that sum in a sandbox is worth. -/
noncomputable def Try.pinned : Pinned := { name := "ytinbhijeonghaaa", sum := "f169f43b83c3e1c9d3885441931b0953ebfa81d46f5918fcde39b72cfaacbfc3", checked := Try.checked }
namespace Rows
def none {H : Type} : Left H := { results := [], args := [] }

/-- 'donjonlaw5.AclOthers': WHATEVER THE INPUT: true; the input reads as it did. -/
def aclOthersSpec : ChangeSpec := { name := "aclOthers", fn := fun _ => fun
  | [d1, d2, d3, d4] => { results := [.lit (.bool true)], args := [d1, d2, d3, d4] }
  | _ => none }
def aclOthersRow : OpenClaim := { program := "ytinbhijeonghaaa", sum := "f169f43b83c3e1c9d3885441931b0953ebfa81d46f5918fcde39b72cfaacbfc3", func := "donjon/donjonlaw5.AclOthers", spec := "aclOthers", inPlace := ["slices.overlaps[donjon/api.Grant]"], unfollowed := true, recurses := true, plainKeys := false, apart := false }
def AclOthersSaid : Prop := aclOthersRow.holds Try.pinned (OpenSpec.ofChange aclOthersSpec)

/-- ITS FALSE NEIGHBOUR: 'it returns false'. Refute it at one input. -/
def aclOthersWrong : ChangeSpec := { name := "aclOthers", fn := fun _ => fun
  | [d1, d2, d3, d4] => { results := [.lit (.bool false)], args := [d1, d2, d3, d4] }
  | _ => none }
def AclOthersWrongFalsely : Prop := aclOthersRow.holds Try.pinned (OpenSpec.ofChange aclOthersWrong)

/-- 'donjonlaw5.AclFull': WHATEVER THE INPUT: true; the input reads as it did. -/
def aclFullSpec : ChangeSpec := { name := "aclFull", fn := fun _ => fun
  | [d1, d2] => { results := [.lit (.bool true)], args := [d1, d2] }
  | _ => none }
def aclFullRow : OpenClaim := { program := "ytinbhijeonghaaa", sum := "f169f43b83c3e1c9d3885441931b0953ebfa81d46f5918fcde39b72cfaacbfc3", func := "donjon/donjonlaw5.AclFull", spec := "aclFull", inPlace := ["slices.overlaps[donjon/api.Grant]"], unfollowed := true, recurses := true, plainKeys := false, apart := false }
def AclFullSaid : Prop := aclFullRow.holds Try.pinned (OpenSpec.ofChange aclFullSpec)

/-- ITS FALSE NEIGHBOUR: 'it returns false'. Refute it at one input. -/
def aclFullWrong : ChangeSpec := { name := "aclFull", fn := fun _ => fun
  | [d1, d2] => { results := [.lit (.bool false)], args := [d1, d2] }
  | _ => none }
def AclFullWrongFalsely : Prop := aclFullRow.holds Try.pinned (OpenSpec.ofChange aclFullWrong)

/-- 'donjonlaw5.AclPlays': WHATEVER THE INPUT: true; the input reads as it did. -/
def aclPlaysSpec : ChangeSpec := { name := "aclPlays", fn := fun _ => fun
  | [d] => { results := [.lit (.bool true)], args := [d] }
  | _ => none }
def aclPlaysRow : OpenClaim := { program := "ytinbhijeonghaaa", sum := "f169f43b83c3e1c9d3885441931b0953ebfa81d46f5918fcde39b72cfaacbfc3", func := "donjon/donjonlaw5.AclPlays", spec := "aclPlays", inPlace := ["slices.overlaps[donjon/api.Grant]"], unfollowed := true, recurses := true, plainKeys := false, apart := false }
def AclPlaysSaid : Prop := aclPlaysRow.holds Try.pinned (OpenSpec.ofChange aclPlaysSpec)

/-- ITS FALSE NEIGHBOUR: 'it returns false'. Refute it at one input. -/
def aclPlaysWrong : ChangeSpec := { name := "aclPlays", fn := fun _ => fun
  | [d] => { results := [.lit (.bool false)], args := [d] }
  | _ => none }
def AclPlaysWrongFalsely : Prop := aclPlaysRow.holds Try.pinned (OpenSpec.ofChange aclPlaysWrong)

/-- 'donjonlaw12.QuotaCounts': WHATEVER THE INPUT: true; the input reads as it did. -/
def quotaCountsSpec : ChangeSpec := { name := "quotaCounts", fn := fun _ => fun
  | [d1, d2] => { results := [.lit (.bool true)], args := [d1, d2] }
  | _ => none }
def quotaCountsRow : OpenClaim := { program := "ytinbhijeonghaaa", sum := "f169f43b83c3e1c9d3885441931b0953ebfa81d46f5918fcde39b72cfaacbfc3", func := "donjon/donjonlaw12.QuotaCounts", spec := "quotaCounts", unfollowed := true, recurses := true, plainKeys := false, apart := false }
def QuotaCountsSaid : Prop := quotaCountsRow.holds Try.pinned (OpenSpec.ofChange quotaCountsSpec)

/-- ITS FALSE NEIGHBOUR: 'it returns false'. Refute it at one input. -/
def quotaCountsWrong : ChangeSpec := { name := "quotaCounts", fn := fun _ => fun
  | [d1, d2] => { results := [.lit (.bool false)], args := [d1, d2] }
  | _ => none }
def QuotaCountsWrongFalsely : Prop := quotaCountsRow.holds Try.pinned (OpenSpec.ofChange quotaCountsWrong)

/-- 'donjonlaw12.QuotaApart': WHATEVER THE INPUT: true; the input reads as it did. -/
def quotaApartSpec : ChangeSpec := { name := "quotaApart", fn := fun _ => fun
  | [d1, d2, d3, d4] => { results := [.lit (.bool true)], args := [d1, d2, d3, d4] }
  | _ => none }
def quotaApartRow : OpenClaim := { program := "ytinbhijeonghaaa", sum := "f169f43b83c3e1c9d3885441931b0953ebfa81d46f5918fcde39b72cfaacbfc3", func := "donjon/donjonlaw12.QuotaApart", spec := "quotaApart", unfollowed := true, recurses := true, plainKeys := false, apart := false }
def QuotaApartSaid : Prop := quotaApartRow.holds Try.pinned (OpenSpec.ofChange quotaApartSpec)

/-- ITS FALSE NEIGHBOUR: 'it returns false'. Refute it at one input. -/
def quotaApartWrong : ChangeSpec := { name := "quotaApart", fn := fun _ => fun
  | [d1, d2, d3, d4] => { results := [.lit (.bool false)], args := [d1, d2, d3, d4] }
  | _ => none }
def QuotaApartWrongFalsely : Prop := quotaApartRow.holds Try.pinned (OpenSpec.ofChange quotaApartWrong)

/- THE SECOND FORM. 'bulk': how many values and letters a reading holds, each counted each time it is reached (what is shared counts as often as it is met; a slice's spare places count too). A statement '..UptoSaid' is the law's where the arguments, and the package variables that the reading takes, are together of bulk at most 1048576: NARROWER than '..Said'. Prove '..Said' where nothing that the law and all that it calls make is longer than what came in: it says more and counts as full. Else prove '..UptoSaid'. A law counts once. -/
mutual
def uptoBulk {H : Type} : DataW H → Nat
  | .lit (.string bytes) => bytes.length + 1
  | .lit _ => 1
  | .nil => 1
  | .ptr d => uptoBulk d + 1
  | .slice elems spare => uptoBulkAll elems + uptoBulkAll spare + 1
  | .agg parts => uptoBulkAll parts + 1
  | .iface _ d => uptoBulk d + 1
  | .map entries => uptoBulkEntries entries + 1
  | .held _ => 1
def uptoBulkAll {H : Type} : List (DataW H) → Nat
  | [] => 0
  | d :: r => uptoBulk d + uptoBulkAll r
def uptoBulkEntries {H : Type} : List (Lit × DataW H) → Nat
  | [] => 0
  | x :: r => uptoBulkEntry x + uptoBulkEntries r
def uptoBulkEntry {H : Type} : Lit × DataW H → Nat
  | (.string bytes, d) => bytes.length + uptoBulk d + 1
  | (_, d) => uptoBulk d + 1
 end
def uptoSmall : (H : Type) → List (DataW H) → Bool := fun _ ds => decide (uptoBulkAll ds ≤ 1048576)
def OpenSpec.upto (s : _root_.Go.ChangeSpec) : _root_.Go.OpenSpec := { _root_.Go.OpenSpec.ofChange s with cond := some uptoSmall }

/-- 'donjonlaw5.AclOthers', WHERE WHAT IT READS IS OF BULK AT MOST 1048576: true; the input reads as it did. -/
def aclOthersUptoRow : OpenClaim := { program := "ytinbhijeonghaaa", sum := "f169f43b83c3e1c9d3885441931b0953ebfa81d46f5918fcde39b72cfaacbfc3", func := "donjon/donjonlaw5.AclOthers", spec := "aclOthers", inPlace := ["slices.overlaps[donjon/api.Grant]"], unfollowed := true, recurses := true, plainKeys := false, apart := false, narrowed := true }
def AclOthersUptoSaid : Prop := aclOthersUptoRow.holds Try.pinned (OpenSpec.upto aclOthersSpec)

/-- 'donjonlaw5.AclFull', WHERE WHAT IT READS IS OF BULK AT MOST 1048576: true; the input reads as it did. -/
def aclFullUptoRow : OpenClaim := { program := "ytinbhijeonghaaa", sum := "f169f43b83c3e1c9d3885441931b0953ebfa81d46f5918fcde39b72cfaacbfc3", func := "donjon/donjonlaw5.AclFull", spec := "aclFull", inPlace := ["slices.overlaps[donjon/api.Grant]"], unfollowed := true, recurses := true, plainKeys := false, apart := false, narrowed := true }
def AclFullUptoSaid : Prop := aclFullUptoRow.holds Try.pinned (OpenSpec.upto aclFullSpec)

/-- 'donjonlaw5.AclPlays', WHERE WHAT IT READS IS OF BULK AT MOST 1048576: true; the input reads as it did. -/
def aclPlaysUptoRow : OpenClaim := { program := "ytinbhijeonghaaa", sum := "f169f43b83c3e1c9d3885441931b0953ebfa81d46f5918fcde39b72cfaacbfc3", func := "donjon/donjonlaw5.AclPlays", spec := "aclPlays", inPlace := ["slices.overlaps[donjon/api.Grant]"], unfollowed := true, recurses := true, plainKeys := false, apart := false, narrowed := true }
def AclPlaysUptoSaid : Prop := aclPlaysUptoRow.holds Try.pinned (OpenSpec.upto aclPlaysSpec)

/-- 'donjonlaw12.QuotaCounts', WHERE WHAT IT READS IS OF BULK AT MOST 1048576: true; the input reads as it did. -/
def quotaCountsUptoRow : OpenClaim := { program := "ytinbhijeonghaaa", sum := "f169f43b83c3e1c9d3885441931b0953ebfa81d46f5918fcde39b72cfaacbfc3", func := "donjon/donjonlaw12.QuotaCounts", spec := "quotaCounts", unfollowed := true, recurses := true, plainKeys := false, apart := false, narrowed := true }
def QuotaCountsUptoSaid : Prop := quotaCountsUptoRow.holds Try.pinned (OpenSpec.upto quotaCountsSpec)

/-- 'donjonlaw12.QuotaApart', WHERE WHAT IT READS IS OF BULK AT MOST 1048576: true; the input reads as it did. -/
def quotaApartUptoRow : OpenClaim := { program := "ytinbhijeonghaaa", sum := "f169f43b83c3e1c9d3885441931b0953ebfa81d46f5918fcde39b72cfaacbfc3", func := "donjon/donjonlaw12.QuotaApart", spec := "quotaApart", unfollowed := true, recurses := true, plainKeys := false, apart := false, narrowed := true }
def QuotaApartUptoSaid : Prop := quotaApartUptoRow.holds Try.pinned (OpenSpec.upto quotaApartSpec)

end Rows
end Go.Proofs.Ytinbhijeonghaaa
