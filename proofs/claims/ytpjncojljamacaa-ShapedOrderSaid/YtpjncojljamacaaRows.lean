/-
  No cell of these rows narrows 'for every input' (looked for: loops, veiled, ifaces, maps, wideKeys, modest, calm, conditions, laid).
  DERIVED. THE GIVEN ROWS OF THIS SEAT. 3 by the template 'for every input the law returns true; each argument reads behind the call as it read before'; 0 by the template 'total and deterministic' (their statements: YtpjncojljamacaaTotals.lean).
  GIVEN WITH THE SEED: the statements are not yours to turn. If you find one false, say at which input.
  Laid BY PROGRAM, IN A SANDBOX (cutbox-rows.mjs): the forced cells as the released guide's own fill.sh prints them over the translation cf0d5a0aeb236b10… (all of the seat's roots in one cut). By AI agents, Wed Nov 11 2026. No macro, syntax, notation, axiom, sorry.
-/
import Derived.Test.YtpjncojljamacaaChecked
import GoSem.Claim
import GoSem.ClaimJoined
import GoSem.ClaimMapViews
import Derived.JoinedTies
import Derived.KernelRfl
namespace Go.Proofs.Ytpjncojljamacaa
/- THE CELL 'sum', in the pinned program and in every row, IS THE sha256 OF THE DUMP (.gsa) THAT YtpjncojljamacaaProg.lean LOADS. Nothing in Lean hashes anything: it is a label: what it is worth is what the hold of that sum in a sandbox is worth. -/
noncomputable def Try.pinned : Pinned := { name := "ytpjncojljamacaa", sum := "cf0d5a0aeb236b10d17c40e98dddb362e4d0099915fa6181e46d2af232511125", checked := Try.checked }
namespace Rows
def none {H : Type} : Left H := { results := [], args := [] }

/-- 'topiarylaw05.ShapedFree': WHATEVER THE INPUT: true; the input reads as it did. -/
def shapedFreeSpec : ChangeSpec := { name := "shapedFree", fn := fun _ => fun
  | [d] => { results := [.lit (.bool true)], args := [d] }
  | _ => none }
def shapedFreeRow : OpenClaim := { program := "ytpjncojljamacaa", sum := "cf0d5a0aeb236b10d17c40e98dddb362e4d0099915fa6181e46d2af232511125", func := "topiary/topiarylaw05.ShapedFree", spec := "shapedFree", inPlace := ["slices.overlaps[topiary/shaped.heap]", "internal/abi.NoEscape", "internal/bytealg.MakeNoZero"], unfollowed := true, recurses := true, apart := false }
def ShapedFreeSaid : Prop := shapedFreeRow.holds Try.pinned (OpenSpec.ofChange shapedFreeSpec)

/-- ITS FALSE NEIGHBOUR: 'it returns false'. Refute it at one input. -/
def shapedFreeWrong : ChangeSpec := { name := "shapedFree", fn := fun _ => fun
  | [d] => { results := [.lit (.bool false)], args := [d] }
  | _ => none }
def ShapedFreeWrongFalsely : Prop := shapedFreeRow.holds Try.pinned (OpenSpec.ofChange shapedFreeWrong)

/-- 'topiarylaw05.ShapedWhole': WHATEVER THE INPUT: true; the input reads as it did. -/
def shapedWholeSpec : ChangeSpec := { name := "shapedWhole", fn := fun _ => fun
  | [d] => { results := [.lit (.bool true)], args := [d] }
  | _ => none }
def shapedWholeRow : OpenClaim := { program := "ytpjncojljamacaa", sum := "cf0d5a0aeb236b10d17c40e98dddb362e4d0099915fa6181e46d2af232511125", func := "topiary/topiarylaw05.ShapedWhole", spec := "shapedWhole", inPlace := ["slices.overlaps[topiary/shaped.heap]", "internal/abi.NoEscape", "internal/bytealg.MakeNoZero"], unfollowed := true, recurses := true, apart := false }
def ShapedWholeSaid : Prop := shapedWholeRow.holds Try.pinned (OpenSpec.ofChange shapedWholeSpec)

/-- ITS FALSE NEIGHBOUR: 'it returns false'. Refute it at one input. -/
def shapedWholeWrong : ChangeSpec := { name := "shapedWhole", fn := fun _ => fun
  | [d] => { results := [.lit (.bool false)], args := [d] }
  | _ => none }
def ShapedWholeWrongFalsely : Prop := shapedWholeRow.holds Try.pinned (OpenSpec.ofChange shapedWholeWrong)

/-- 'topiarylaw05.ShapedOrder': WHATEVER THE INPUT: true; the input reads as it did. -/
def shapedOrderSpec : ChangeSpec := { name := "shapedOrder", fn := fun _ => fun
  | [d1, d2] => { results := [.lit (.bool true)], args := [d1, d2] }
  | _ => none }
def shapedOrderRow : OpenClaim := { program := "ytpjncojljamacaa", sum := "cf0d5a0aeb236b10d17c40e98dddb362e4d0099915fa6181e46d2af232511125", func := "topiary/topiarylaw05.ShapedOrder", spec := "shapedOrder", inPlace := ["slices.overlaps[topiary/shaped.heap]", "internal/abi.NoEscape", "internal/bytealg.MakeNoZero"], unfollowed := true, recurses := true, apart := false }
def ShapedOrderSaid : Prop := shapedOrderRow.holds Try.pinned (OpenSpec.ofChange shapedOrderSpec)

/-- ITS FALSE NEIGHBOUR: 'it returns false'. Refute it at one input. -/
def shapedOrderWrong : ChangeSpec := { name := "shapedOrder", fn := fun _ => fun
  | [d1, d2] => { results := [.lit (.bool false)], args := [d1, d2] }
  | _ => none }
def ShapedOrderWrongFalsely : Prop := shapedOrderRow.holds Try.pinned (OpenSpec.ofChange shapedOrderWrong)

/- THE SECOND FORM. 'bulk': how many values and letters a reading holds, each counted each time it is reached (what is shared counts as often as it is met; a slice's spare places count too). A statement '..UptoSaid' is the law's where the arguments, and the package variables that the reading takes, are together of bulk at most 1048576: NARROWER than '..Said'. Prove '..Said' where nothing that the law and all that it calls make is longer than what came in: it says more and counts as full. Else prove '..UptoSaid'. A law counts once. -/
mutual
def uptoBulk {H : Type} : DataW H → Nat
  | .lit (.string bytes) => bytes.length + 1
  | .lit _ => 1
  | .nil => 1
  | .ptr d => uptoBulk d + 1
  | .slice elems spare => uptoBulkAll elems + uptoBulkAll spare + 1
  | .agg parts => uptoBulkAll parts + 1
  | .iface _ d => uptoBulk d + 1
  | .map entries => uptoBulkEntries entries + 1
  | .held _ => 1
def uptoBulkAll {H : Type} : List (DataW H) → Nat
  | [] => 0
  | d :: r => uptoBulk d + uptoBulkAll r
def uptoBulkEntries {H : Type} : List (Lit × DataW H) → Nat
  | [] => 0
  | x :: r => uptoBulkEntry x + uptoBulkEntries r
def uptoBulkEntry {H : Type} : Lit × DataW H → Nat
  | (.string bytes, d) => bytes.length + uptoBulk d + 1
  | (_, d) => uptoBulk d + 1
 end
def uptoSmall : (H : Type) → List (DataW H) → Bool := fun _ ds => decide (uptoBulkAll ds ≤ 1048576)
def OpenSpec.upto (s : _root_.Go.ChangeSpec) : _root_.Go.OpenSpec := { _root_.Go.OpenSpec.ofChange s with cond := some uptoSmall }

/-- 'topiarylaw05.ShapedFree', WHERE WHAT IT READS IS OF BULK AT MOST 1048576: true; the input reads as it did. -/
def shapedFreeUptoRow : OpenClaim := { program := "ytpjncojljamacaa", sum := "cf0d5a0aeb236b10d17c40e98dddb362e4d0099915fa6181e46d2af232511125", func := "topiary/topiarylaw05.ShapedFree", spec := "shapedFree", inPlace := ["slices.overlaps[topiary/shaped.heap]", "internal/abi.NoEscape", "internal/bytealg.MakeNoZero"], unfollowed := true, recurses := true, apart := false, narrowed := true }
def ShapedFreeUptoSaid : Prop := shapedFreeUptoRow.holds Try.pinned (OpenSpec.upto shapedFreeSpec)

/-- 'topiarylaw05.ShapedWhole', WHERE WHAT IT READS IS OF BULK AT MOST 1048576: true; the input reads as it did. -/
def shapedWholeUptoRow : OpenClaim := { program := "ytpjncojljamacaa", sum := "cf0d5a0aeb236b10d17c40e98dddb362e4d0099915fa6181e46d2af232511125", func := "topiary/topiarylaw05.ShapedWhole", spec := "shapedWhole", inPlace := ["slices.overlaps[topiary/shaped.heap]", "internal/abi.NoEscape", "internal/bytealg.MakeNoZero"], unfollowed := true, recurses := true, apart := false, narrowed := true }
def ShapedWholeUptoSaid : Prop := shapedWholeUptoRow.holds Try.pinned (OpenSpec.upto shapedWholeSpec)

/-- 'topiarylaw05.ShapedOrder', WHERE WHAT IT READS IS OF BULK AT MOST 1048576: true; the input reads as it did. -/
def shapedOrderUptoRow : OpenClaim := { program := "ytpjncojljamacaa", sum := "cf0d5a0aeb236b10d17c40e98dddb362e4d0099915fa6181e46d2af232511125", func := "topiary/topiarylaw05.ShapedOrder", spec := "shapedOrder", inPlace := ["slices.overlaps[topiary/shaped.heap]", "internal/abi.NoEscape", "internal/bytealg.MakeNoZero"], unfollowed := true, recurses := true, apart := false, narrowed := true }
def ShapedOrderUptoSaid : Prop := shapedOrderUptoRow.holds Try.pinned (OpenSpec.upto shapedOrderSpec)

end Rows
end Go.Proofs.Ytpjncojljamacaa
