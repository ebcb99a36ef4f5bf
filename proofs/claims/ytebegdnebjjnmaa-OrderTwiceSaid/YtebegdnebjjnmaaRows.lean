/-
  No cell of these rows narrows 'for every input' (looked for: loops, veiled, ifaces, maps, wideKeys, modest, calm, conditions, laid).
  DERIVED. THE GIVEN ROWS OF THIS SEAT. 7 by the template 'for every input the law returns true; each argument reads behind the call as it read before'; 0 by the template 'total and deterministic' (their statements: YtebegdnebjjnmaaTotals.lean).
  GIVEN WITH THE SEED: the statements are not yours to turn. If you find one false, say at which input.
  Laid BY PROGRAM, IN A SANDBOX (cutbox-rows.mjs): the forced cells as the released guide's own fill.sh prints them over the translation c909645a5854a240… (all of the seat's roots in one cut). By AI agents, Wed Nov 11 2026. No macro, syntax, notation, axiom, sorry.
-/
import Derived.Test.YtebegdnebjjnmaaChecked
import GoSem.Claim
import GoSem.ClaimJoined
import GoSem.ClaimMapViews
import Derived.JoinedTies
import Derived.KernelRfl
namespace Go.Proofs.Ytebegdnebjjnmaa
/- THE CELL 'sum', in the pinned program and in every row, IS THE sha256 OF THE DUMP (.gsa) THAT YtebegdnebjjnmaaProg.lean LOADS. Nothing in Lean hashes anything: it is a label: what it is worth is what the hold of that sum in a sandbox is worth. -/
noncomputable def Try.pinned : Pinned := { name := "ytebegdnebjjnmaa", sum := "c909645a5854a240ea8a49e66467f99efe7f2664f4861a98b13a9221a6c181f4", checked := Try.checked }
namespace Rows
def none {H : Type} : Left H := { results := [], args := [] }

/-- 'topiarylaw06.OrderSorts': WHATEVER THE INPUT: true; the input reads as it did. -/
def orderSortsSpec : ChangeSpec := { name := "orderSorts", fn := fun _ => fun
  | [d1, d2, d3] => { results := [.lit (.bool true)], args := [d1, d2, d3] }
  | _ => none }
def orderSortsRow : OpenClaim := { program := "ytebegdnebjjnmaa", sum := "c909645a5854a240ea8a49e66467f99efe7f2664f4861a98b13a9221a6c181f4", func := "topiary/topiarylaw06.OrderSorts", spec := "orderSorts", unfollowed := true, recurses := true, apart := false }
def OrderSortsSaid : Prop := orderSortsRow.holds Try.pinned (OpenSpec.ofChange orderSortsSpec)

/-- ITS FALSE NEIGHBOUR: 'it returns false'. Refute it at one input. -/
def orderSortsWrong : ChangeSpec := { name := "orderSorts", fn := fun _ => fun
  | [d1, d2, d3] => { results := [.lit (.bool false)], args := [d1, d2, d3] }
  | _ => none }
def OrderSortsWrongFalsely : Prop := orderSortsRow.holds Try.pinned (OpenSpec.ofChange orderSortsWrong)

/-- 'topiarylaw06.OrderRanks': WHATEVER THE INPUT: true; the input reads as it did. -/
def orderRanksSpec : ChangeSpec := { name := "orderRanks", fn := fun _ => fun
  | [d1, d2, d3] => { results := [.lit (.bool true)], args := [d1, d2, d3] }
  | _ => none }
def orderRanksRow : OpenClaim := { program := "ytebegdnebjjnmaa", sum := "c909645a5854a240ea8a49e66467f99efe7f2664f4861a98b13a9221a6c181f4", func := "topiary/topiarylaw06.OrderRanks", spec := "orderRanks", unfollowed := true, recurses := true, apart := false }
def OrderRanksSaid : Prop := orderRanksRow.holds Try.pinned (OpenSpec.ofChange orderRanksSpec)

/-- ITS FALSE NEIGHBOUR: 'it returns false'. Refute it at one input. -/
def orderRanksWrong : ChangeSpec := { name := "orderRanks", fn := fun _ => fun
  | [d1, d2, d3] => { results := [.lit (.bool false)], args := [d1, d2, d3] }
  | _ => none }
def OrderRanksWrongFalsely : Prop := orderRanksRow.holds Try.pinned (OpenSpec.ofChange orderRanksWrong)

/-- 'topiarylaw06.OrderLess': WHATEVER THE INPUT: true; the input reads as it did. -/
def orderLessSpec : ChangeSpec := { name := "orderLess", fn := fun _ => fun
  | [d] => { results := [.lit (.bool true)], args := [d] }
  | _ => none }
def orderLessRow : OpenClaim := { program := "ytebegdnebjjnmaa", sum := "c909645a5854a240ea8a49e66467f99efe7f2664f4861a98b13a9221a6c181f4", func := "topiary/topiarylaw06.OrderLess", spec := "orderLess", unfollowed := true, recurses := true, apart := false }
def OrderLessSaid : Prop := orderLessRow.holds Try.pinned (OpenSpec.ofChange orderLessSpec)

/-- ITS FALSE NEIGHBOUR: 'it returns false'. Refute it at one input. -/
def orderLessWrong : ChangeSpec := { name := "orderLess", fn := fun _ => fun
  | [d] => { results := [.lit (.bool false)], args := [d] }
  | _ => none }
def OrderLessWrongFalsely : Prop := orderLessRow.holds Try.pinned (OpenSpec.ofChange orderLessWrong)

/-- 'topiarylaw06.OrderKeeps': WHATEVER THE INPUT: true; the input reads as it did. -/
def orderKeepsSpec : ChangeSpec := { name := "orderKeeps", fn := fun _ => fun
  | [d] => { results := [.lit (.bool true)], args := [d] }
  | _ => none }
def orderKeepsRow : OpenClaim := { program := "ytebegdnebjjnmaa", sum := "c909645a5854a240ea8a49e66467f99efe7f2664f4861a98b13a9221a6c181f4", func := "topiary/topiarylaw06.OrderKeeps", spec := "orderKeeps", unfollowed := true, recurses := true, apart := false }
def OrderKeepsSaid : Prop := orderKeepsRow.holds Try.pinned (OpenSpec.ofChange orderKeepsSpec)

/-- ITS FALSE NEIGHBOUR: 'it returns false'. Refute it at one input. -/
def orderKeepsWrong : ChangeSpec := { name := "orderKeeps", fn := fun _ => fun
  | [d] => { results := [.lit (.bool false)], args := [d] }
  | _ => none }
def OrderKeepsWrongFalsely : Prop := orderKeepsRow.holds Try.pinned (OpenSpec.ofChange orderKeepsWrong)

/-- 'topiarylaw06.OrderTwice': WHATEVER THE INPUT: true; the input reads as it did. -/
def orderTwiceSpec : ChangeSpec := { name := "orderTwice", fn := fun _ => fun
  | [d] => { results := [.lit (.bool true)], args := [d] }
  | _ => none }
def orderTwiceRow : OpenClaim := { program := "ytebegdnebjjnmaa", sum := "c909645a5854a240ea8a49e66467f99efe7f2664f4861a98b13a9221a6c181f4", func := "topiary/topiarylaw06.OrderTwice", spec := "orderTwice", unfollowed := true, recurses := true, apart := false }
def OrderTwiceSaid : Prop := orderTwiceRow.holds Try.pinned (OpenSpec.ofChange orderTwiceSpec)

/-- ITS FALSE NEIGHBOUR: 'it returns false'. Refute it at one input. -/
def orderTwiceWrong : ChangeSpec := { name := "orderTwice", fn := fun _ => fun
  | [d] => { results := [.lit (.bool false)], args := [d] }
  | _ => none }
def OrderTwiceWrongFalsely : Prop := orderTwiceRow.holds Try.pinned (OpenSpec.ofChange orderTwiceWrong)

/-- 'topiarylaw06.OrderSets': WHATEVER THE INPUT: true; the input reads as it did. -/
def orderSetsSpec : ChangeSpec := { name := "orderSets", fn := fun _ => fun
  | [d1, d2, d3] => { results := [.lit (.bool true)], args := [d1, d2, d3] }
  | _ => none }
def orderSetsRow : OpenClaim := { program := "ytebegdnebjjnmaa", sum := "c909645a5854a240ea8a49e66467f99efe7f2664f4861a98b13a9221a6c181f4", func := "topiary/topiarylaw06.OrderSets", spec := "orderSets", unfollowed := true, recurses := true, apart := false }
def OrderSetsSaid : Prop := orderSetsRow.holds Try.pinned (OpenSpec.ofChange orderSetsSpec)

/-- ITS FALSE NEIGHBOUR: 'it returns false'. Refute it at one input. -/
def orderSetsWrong : ChangeSpec := { name := "orderSets", fn := fun _ => fun
  | [d1, d2, d3] => { results := [.lit (.bool false)], args := [d1, d2, d3] }
  | _ => none }
def OrderSetsWrongFalsely : Prop := orderSetsRow.holds Try.pinned (OpenSpec.ofChange orderSetsWrong)

/-- 'topiarylaw06.OrderTurns': WHATEVER THE INPUT: true; the input reads as it did. -/
def orderTurnsSpec : ChangeSpec := { name := "orderTurns", fn := fun _ => fun
  | [d1, d2] => { results := [.lit (.bool true)], args := [d1, d2] }
  | _ => none }
def orderTurnsRow : OpenClaim := { program := "ytebegdnebjjnmaa", sum := "c909645a5854a240ea8a49e66467f99efe7f2664f4861a98b13a9221a6c181f4", func := "topiary/topiarylaw06.OrderTurns", spec := "orderTurns", unfollowed := true, recurses := true, apart := false }
def OrderTurnsSaid : Prop := orderTurnsRow.holds Try.pinned (OpenSpec.ofChange orderTurnsSpec)

/-- ITS FALSE NEIGHBOUR: 'it returns false'. Refute it at one input. -/
def orderTurnsWrong : ChangeSpec := { name := "orderTurns", fn := fun _ => fun
  | [d1, d2] => { results := [.lit (.bool false)], args := [d1, d2] }
  | _ => none }
def OrderTurnsWrongFalsely : Prop := orderTurnsRow.holds Try.pinned (OpenSpec.ofChange orderTurnsWrong)

/- THE SECOND FORM. 'bulk': how many values and letters a reading holds, each counted each time it is reached (what is shared counts as often as it is met; a slice's spare places count too). A statement '..UptoSaid' is the law's where the arguments, and the package variables that the reading takes, are together of bulk at most 1048576: NARROWER than '..Said'. Prove '..Said' where nothing that the law and all that it calls make is longer than what came in: it says more and counts as full. Else prove '..UptoSaid'. A law counts once. -/
mutual
def uptoBulk {H : Type} : DataW H → Nat
  | .lit (.string bytes) => bytes.length + 1
  | .lit _ => 1
  | .nil => 1
  | .ptr d => uptoBulk d + 1
  | .slice elems spare => uptoBulkAll elems + uptoBulkAll spare + 1
  | .agg parts => uptoBulkAll parts + 1
  | .iface _ d => uptoBulk d + 1
  | .map entries => uptoBulkEntries entries + 1
  | .held _ => 1
def uptoBulkAll {H : Type} : List (DataW H) → Nat
  | [] => 0
  | d :: r => uptoBulk d + uptoBulkAll r
def uptoBulkEntries {H : Type} : List (Lit × DataW H) → Nat
  | [] => 0
  | x :: r => uptoBulkEntry x + uptoBulkEntries r
def uptoBulkEntry {H : Type} : Lit × DataW H → Nat
  | (.string bytes, d) => bytes.length + uptoBulk d + 1
  | (_, d) => uptoBulk d + 1
 end
def uptoSmall : (H : Type) → List (DataW H) → Bool := fun _ ds => decide (uptoBulkAll ds ≤ 1048576)
def OpenSpec.upto (s : _root_.Go.ChangeSpec) : _root_.Go.OpenSpec := { _root_.Go.OpenSpec.ofChange s with cond := some uptoSmall }

/-- 'topiarylaw06.OrderSorts', WHERE WHAT IT READS IS OF BULK AT MOST 1048576: true; the input reads as it did. -/
def orderSortsUptoRow : OpenClaim := { program := "ytebegdnebjjnmaa", sum := "c909645a5854a240ea8a49e66467f99efe7f2664f4861a98b13a9221a6c181f4", func := "topiary/topiarylaw06.OrderSorts", spec := "orderSorts", unfollowed := true, recurses := true, apart := false, narrowed := true }
def OrderSortsUptoSaid : Prop := orderSortsUptoRow.holds Try.pinned (OpenSpec.upto orderSortsSpec)

/-- 'topiarylaw06.OrderRanks', WHERE WHAT IT READS IS OF BULK AT MOST 1048576: true; the input reads as it did. -/
def orderRanksUptoRow : OpenClaim := { program := "ytebegdnebjjnmaa", sum := "c909645a5854a240ea8a49e66467f99efe7f2664f4861a98b13a9221a6c181f4", func := "topiary/topiarylaw06.OrderRanks", spec := "orderRanks", unfollowed := true, recurses := true, apart := false, narrowed := true }
def OrderRanksUptoSaid : Prop := orderRanksUptoRow.holds Try.pinned (OpenSpec.upto orderRanksSpec)

/-- 'topiarylaw06.OrderLess', WHERE WHAT IT READS IS OF BULK AT MOST 1048576: true; the input reads as it did. -/
def orderLessUptoRow : OpenClaim := { program := "ytebegdnebjjnmaa", sum := "c909645a5854a240ea8a49e66467f99efe7f2664f4861a98b13a9221a6c181f4", func := "topiary/topiarylaw06.OrderLess", spec := "orderLess", unfollowed := true, recurses := true, apart := false, narrowed := true }
def OrderLessUptoSaid : Prop := orderLessUptoRow.holds Try.pinned (OpenSpec.upto orderLessSpec)

/-- 'topiarylaw06.OrderKeeps', WHERE WHAT IT READS IS OF BULK AT MOST 1048576: true; the input reads as it did. -/
def orderKeepsUptoRow : OpenClaim := { program := "ytebegdnebjjnmaa", sum := "c909645a5854a240ea8a49e66467f99efe7f2664f4861a98b13a9221a6c181f4", func := "topiary/topiarylaw06.OrderKeeps", spec := "orderKeeps", unfollowed := true, recurses := true, apart := false, narrowed := true }
def OrderKeepsUptoSaid : Prop := orderKeepsUptoRow.holds Try.pinned (OpenSpec.upto orderKeepsSpec)

/-- 'topiarylaw06.OrderTwice', WHERE WHAT IT READS IS OF BULK AT MOST 1048576: true; the input reads as it did. -/
def orderTwiceUptoRow : OpenClaim := { program := "ytebegdnebjjnmaa", sum := "c909645a5854a240ea8a49e66467f99efe7f2664f4861a98b13a9221a6c181f4", func := "topiary/topiarylaw06.OrderTwice", spec := "orderTwice", unfollowed := true, recurses := true, apart := false, narrowed := true }
def OrderTwiceUptoSaid : Prop := orderTwiceUptoRow.holds Try.pinned (OpenSpec.upto orderTwiceSpec)

/-- 'topiarylaw06.OrderSets', WHERE WHAT IT READS IS OF BULK AT MOST 1048576: true; the input reads as it did. -/
def orderSetsUptoRow : OpenClaim := { program := "ytebegdnebjjnmaa", sum := "c909645a5854a240ea8a49e66467f99efe7f2664f4861a98b13a9221a6c181f4", func := "topiary/topiarylaw06.OrderSets", spec := "orderSets", unfollowed := true, recurses := true, apart := false, narrowed := true }
def OrderSetsUptoSaid : Prop := orderSetsUptoRow.holds Try.pinned (OpenSpec.upto orderSetsSpec)

/-- 'topiarylaw06.OrderTurns', WHERE WHAT IT READS IS OF BULK AT MOST 1048576: true; the input reads as it did. -/
def orderTurnsUptoRow : OpenClaim := { program := "ytebegdnebjjnmaa", sum := "c909645a5854a240ea8a49e66467f99efe7f2664f4861a98b13a9221a6c181f4", func := "topiary/topiarylaw06.OrderTurns", spec := "orderTurns", unfollowed := true, recurses := true, apart := false, narrowed := true }
def OrderTurnsUptoSaid : Prop := orderTurnsUptoRow.holds Try.pinned (OpenSpec.upto orderTurnsSpec)

end Rows
end Go.Proofs.Ytebegdnebjjnmaa
