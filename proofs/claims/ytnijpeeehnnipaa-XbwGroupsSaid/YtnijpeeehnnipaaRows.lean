/-
  No cell of these rows narrows 'for every input' (looked for: loops, veiled, ifaces, maps, wideKeys, modest, calm, conditions, laid).
  DERIVED. THE GIVEN ROWS OF THIS SEAT. 6 by the template 'for every input the law returns true; each argument reads behind the call as it read before'; 0 by the template 'total and deterministic' (their statements: YtnijpeeehnnipaaTotals.lean).
  GIVEN WITH THE SEED: the statements are not yours to turn. If you find one false, say at which input.
  Laid BY PROGRAM, IN A SANDBOX (cutbox-rows.mjs): the forced cells as the released guide's own fill.sh prints them over the translation ea9b75cdf3249be7… (all of the seat's roots in one cut). By AI agents, Wed Nov 11 2026. No macro, syntax, notation, axiom, sorry.
-/
import Derived.Test.YtnijpeeehnnipaaChecked
import GoSem.Claim
import GoSem.ClaimJoined
import GoSem.ClaimMapViews
import Derived.JoinedTies
import Derived.KernelRfl
namespace Go.Proofs.Ytnijpeeehnnipaa
/- THE CELL 'sum', in the pinned program and in every row, IS THE sha256 OF THE DUMP (.gsa) THAT YtnijpeeehnnipaaProg.lean LOADS. Nothing in Lean hashes anything: it is a label: what it is worth is what the hold of that sum in a sandbox is worth. -/
noncomputable def Try.pinned : Pinned := { name := "ytnijpeeehnnipaa", sum := "ea9b75cdf3249be7ba81c459d8b6ba570d088aaecbd4c37ae16d1c5075531caa", checked := Try.checked }
namespace Rows
def none {H : Type} : Left H := { results := [], args := [] }

/-- 'topiarylaw16.XbwRows': WHATEVER THE INPUT: true; the input reads as it did. -/
def xbwRowsSpec : ChangeSpec := { name := "xbwRows", fn := fun _ => fun
  | [d1, d2] => { results := [.lit (.bool true)], args := [d1, d2] }
  | _ => none }
def xbwRowsRow : OpenClaim := { program := "ytnijpeeehnnipaa", sum := "ea9b75cdf3249be7ba81c459d8b6ba570d088aaecbd4c37ae16d1c5075531caa", func := "topiary/topiarylaw16.XbwRows", spec := "xbwRows", unfollowed := true, recurses := true, apart := false }
def XbwRowsSaid : Prop := xbwRowsRow.holds Try.pinned (OpenSpec.ofChange xbwRowsSpec)

/-- ITS FALSE NEIGHBOUR: 'it returns false'. Refute it at one input. -/
def xbwRowsWrong : ChangeSpec := { name := "xbwRows", fn := fun _ => fun
  | [d1, d2] => { results := [.lit (.bool false)], args := [d1, d2] }
  | _ => none }
def XbwRowsWrongFalsely : Prop := xbwRowsRow.holds Try.pinned (OpenSpec.ofChange xbwRowsWrong)

/-- 'topiarylaw16.XbwGroups': WHATEVER THE INPUT: true; the input reads as it did. -/
def xbwGroupsSpec : ChangeSpec := { name := "xbwGroups", fn := fun _ => fun
  | [d] => { results := [.lit (.bool true)], args := [d] }
  | _ => none }
def xbwGroupsRow : OpenClaim := { program := "ytnijpeeehnnipaa", sum := "ea9b75cdf3249be7ba81c459d8b6ba570d088aaecbd4c37ae16d1c5075531caa", func := "topiary/topiarylaw16.XbwGroups", spec := "xbwGroups", unfollowed := true, recurses := true, apart := false }
def XbwGroupsSaid : Prop := xbwGroupsRow.holds Try.pinned (OpenSpec.ofChange xbwGroupsSpec)

/-- ITS FALSE NEIGHBOUR: 'it returns false'. Refute it at one input. -/
def xbwGroupsWrong : ChangeSpec := { name := "xbwGroups", fn := fun _ => fun
  | [d] => { results := [.lit (.bool false)], args := [d] }
  | _ => none }
def XbwGroupsWrongFalsely : Prop := xbwGroupsRow.holds Try.pinned (OpenSpec.ofChange xbwGroupsWrong)

/-- 'topiarylaw16.XbwCounts': WHATEVER THE INPUT: true; the input reads as it did. -/
def xbwCountsSpec : ChangeSpec := { name := "xbwCounts", fn := fun _ => fun
  | [d1, d2] => { results := [.lit (.bool true)], args := [d1, d2] }
  | _ => none }
def xbwCountsRow : OpenClaim := { program := "ytnijpeeehnnipaa", sum := "ea9b75cdf3249be7ba81c459d8b6ba570d088aaecbd4c37ae16d1c5075531caa", func := "topiary/topiarylaw16.XbwCounts", spec := "xbwCounts", unfollowed := true, recurses := true, apart := false }
def XbwCountsSaid : Prop := xbwCountsRow.holds Try.pinned (OpenSpec.ofChange xbwCountsSpec)

/-- ITS FALSE NEIGHBOUR: 'it returns false'. Refute it at one input. -/
def xbwCountsWrong : ChangeSpec := { name := "xbwCounts", fn := fun _ => fun
  | [d1, d2] => { results := [.lit (.bool false)], args := [d1, d2] }
  | _ => none }
def XbwCountsWrongFalsely : Prop := xbwCountsRow.holds Try.pinned (OpenSpec.ofChange xbwCountsWrong)

/-- 'topiarylaw16.XbwBlocks': WHATEVER THE INPUT: true; the input reads as it did. -/
def xbwBlocksSpec : ChangeSpec := { name := "xbwBlocks", fn := fun _ => fun
  | [d] => { results := [.lit (.bool true)], args := [d] }
  | _ => none }
def xbwBlocksRow : OpenClaim := { program := "ytnijpeeehnnipaa", sum := "ea9b75cdf3249be7ba81c459d8b6ba570d088aaecbd4c37ae16d1c5075531caa", func := "topiary/topiarylaw16.XbwBlocks", spec := "xbwBlocks", unfollowed := true, recurses := true, apart := false }
def XbwBlocksSaid : Prop := xbwBlocksRow.holds Try.pinned (OpenSpec.ofChange xbwBlocksSpec)

/-- ITS FALSE NEIGHBOUR: 'it returns false'. Refute it at one input. -/
def xbwBlocksWrong : ChangeSpec := { name := "xbwBlocks", fn := fun _ => fun
  | [d] => { results := [.lit (.bool false)], args := [d] }
  | _ => none }
def XbwBlocksWrongFalsely : Prop := xbwBlocksRow.holds Try.pinned (OpenSpec.ofChange xbwBlocksWrong)

/-- 'topiarylaw16.XbwOrder': WHATEVER THE INPUT: true; the input reads as it did. -/
def xbwOrderSpec : ChangeSpec := { name := "xbwOrder", fn := fun _ => fun
  | [d1, d2] => { results := [.lit (.bool true)], args := [d1, d2] }
  | _ => none }
def xbwOrderRow : OpenClaim := { program := "ytnijpeeehnnipaa", sum := "ea9b75cdf3249be7ba81c459d8b6ba570d088aaecbd4c37ae16d1c5075531caa", func := "topiary/topiarylaw16.XbwOrder", spec := "xbwOrder", unfollowed := true, recurses := true, apart := false }
def XbwOrderSaid : Prop := xbwOrderRow.holds Try.pinned (OpenSpec.ofChange xbwOrderSpec)

/-- ITS FALSE NEIGHBOUR: 'it returns false'. Refute it at one input. -/
def xbwOrderWrong : ChangeSpec := { name := "xbwOrder", fn := fun _ => fun
  | [d1, d2] => { results := [.lit (.bool false)], args := [d1, d2] }
  | _ => none }
def XbwOrderWrongFalsely : Prop := xbwOrderRow.holds Try.pinned (OpenSpec.ofChange xbwOrderWrong)

/-- 'topiarylaw16.XbwRises': WHATEVER THE INPUT: true; the input reads as it did. -/
def xbwRisesSpec : ChangeSpec := { name := "xbwRises", fn := fun _ => fun
  | [d] => { results := [.lit (.bool true)], args := [d] }
  | _ => none }
def xbwRisesRow : OpenClaim := { program := "ytnijpeeehnnipaa", sum := "ea9b75cdf3249be7ba81c459d8b6ba570d088aaecbd4c37ae16d1c5075531caa", func := "topiary/topiarylaw16.XbwRises", spec := "xbwRises", unfollowed := true, recurses := true, apart := false }
def XbwRisesSaid : Prop := xbwRisesRow.holds Try.pinned (OpenSpec.ofChange xbwRisesSpec)

/-- ITS FALSE NEIGHBOUR: 'it returns false'. Refute it at one input. -/
def xbwRisesWrong : ChangeSpec := { name := "xbwRises", fn := fun _ => fun
  | [d] => { results := [.lit (.bool false)], args := [d] }
  | _ => none }
def XbwRisesWrongFalsely : Prop := xbwRisesRow.holds Try.pinned (OpenSpec.ofChange xbwRisesWrong)

/- THE SECOND FORM. 'bulk': how many values and letters a reading holds, each counted each time it is reached (what is shared counts as often as it is met; a slice's spare places count too). A statement '..UptoSaid' is the law's where the arguments, and the package variables that the reading takes, are together of bulk at most 1048576: NARROWER than '..Said'. Prove '..Said' where nothing that the law and all that it calls make is longer than what came in: it says more and counts as full. Else prove '..UptoSaid'. A law counts once. -/
mutual
def uptoBulk {H : Type} : DataW H → Nat
  | .lit (.string bytes) => bytes.length + 1
  | .lit _ => 1
  | .nil => 1
  | .ptr d => uptoBulk d + 1
  | .slice elems spare => uptoBulkAll elems + uptoBulkAll spare + 1
  | .agg parts => uptoBulkAll parts + 1
  | .iface _ d => uptoBulk d + 1
  | .map entries => uptoBulkEntries entries + 1
  | .held _ => 1
def uptoBulkAll {H : Type} : List (DataW H) → Nat
  | [] => 0
  | d :: r => uptoBulk d + uptoBulkAll r
def uptoBulkEntries {H : Type} : List (Lit × DataW H) → Nat
  | [] => 0
  | x :: r => uptoBulkEntry x + uptoBulkEntries r
def uptoBulkEntry {H : Type} : Lit × DataW H → Nat
  | (.string bytes, d) => bytes.length + uptoBulk d + 1
  | (_, d) => uptoBulk d + 1
 end
def uptoSmall : (H : Type) → List (DataW H) → Bool := fun _ ds => decide (uptoBulkAll ds ≤ 1048576)
def OpenSpec.upto (s : _root_.Go.ChangeSpec) : _root_.Go.OpenSpec := { _root_.Go.OpenSpec.ofChange s with cond := some uptoSmall }

/-- 'topiarylaw16.XbwRows', WHERE WHAT IT READS IS OF BULK AT MOST 1048576: true; the input reads as it did. -/
def xbwRowsUptoRow : OpenClaim := { program := "ytnijpeeehnnipaa", sum := "ea9b75cdf3249be7ba81c459d8b6ba570d088aaecbd4c37ae16d1c5075531caa", func := "topiary/topiarylaw16.XbwRows", spec := "xbwRows", unfollowed := true, recurses := true, apart := false, narrowed := true }
def XbwRowsUptoSaid : Prop := xbwRowsUptoRow.holds Try.pinned (OpenSpec.upto xbwRowsSpec)

/-- 'topiarylaw16.XbwGroups', WHERE WHAT IT READS IS OF BULK AT MOST 1048576: true; the input reads as it did. -/
def xbwGroupsUptoRow : OpenClaim := { program := "ytnijpeeehnnipaa", sum := "ea9b75cdf3249be7ba81c459d8b6ba570d088aaecbd4c37ae16d1c5075531caa", func := "topiary/topiarylaw16.XbwGroups", spec := "xbwGroups", unfollowed := true, recurses := true, apart := false, narrowed := true }
def XbwGroupsUptoSaid : Prop := xbwGroupsUptoRow.holds Try.pinned (OpenSpec.upto xbwGroupsSpec)

/-- 'topiarylaw16.XbwCounts', WHERE WHAT IT READS IS OF BULK AT MOST 1048576: true; the input reads as it did. -/
def xbwCountsUptoRow : OpenClaim := { program := "ytnijpeeehnnipaa", sum := "ea9b75cdf3249be7ba81c459d8b6ba570d088aaecbd4c37ae16d1c5075531caa", func := "topiary/topiarylaw16.XbwCounts", spec := "xbwCounts", unfollowed := true, recurses := true, apart := false, narrowed := true }
def XbwCountsUptoSaid : Prop := xbwCountsUptoRow.holds Try.pinned (OpenSpec.upto xbwCountsSpec)

/-- 'topiarylaw16.XbwBlocks', WHERE WHAT IT READS IS OF BULK AT MOST 1048576: true; the input reads as it did. -/
def xbwBlocksUptoRow : OpenClaim := { program := "ytnijpeeehnnipaa", sum := "ea9b75cdf3249be7ba81c459d8b6ba570d088aaecbd4c37ae16d1c5075531caa", func := "topiary/topiarylaw16.XbwBlocks", spec := "xbwBlocks", unfollowed := true, recurses := true, apart := false, narrowed := true }
def XbwBlocksUptoSaid : Prop := xbwBlocksUptoRow.holds Try.pinned (OpenSpec.upto xbwBlocksSpec)

/-- 'topiarylaw16.XbwOrder', WHERE WHAT IT READS IS OF BULK AT MOST 1048576: true; the input reads as it did. -/
def xbwOrderUptoRow : OpenClaim := { program := "ytnijpeeehnnipaa", sum := "ea9b75cdf3249be7ba81c459d8b6ba570d088aaecbd4c37ae16d1c5075531caa", func := "topiary/topiarylaw16.XbwOrder", spec := "xbwOrder", unfollowed := true, recurses := true, apart := false, narrowed := true }
def XbwOrderUptoSaid : Prop := xbwOrderUptoRow.holds Try.pinned (OpenSpec.upto xbwOrderSpec)

/-- 'topiarylaw16.XbwRises', WHERE WHAT IT READS IS OF BULK AT MOST 1048576: true; the input reads as it did. -/
def xbwRisesUptoRow : OpenClaim := { program := "ytnijpeeehnnipaa", sum := "ea9b75cdf3249be7ba81c459d8b6ba570d088aaecbd4c37ae16d1c5075531caa", func := "topiary/topiarylaw16.XbwRises", spec := "xbwRises", unfollowed := true, recurses := true, apart := false, narrowed := true }
def XbwRisesUptoSaid : Prop := xbwRisesUptoRow.holds Try.pinned (OpenSpec.upto xbwRisesSpec)

end Rows
end Go.Proofs.Ytnijpeeehnnipaa
