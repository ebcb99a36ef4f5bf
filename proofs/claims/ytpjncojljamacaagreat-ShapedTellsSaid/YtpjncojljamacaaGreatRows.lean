/-
  No cell of these rows narrows 'for every input' (looked for: loops, veiled, ifaces, maps, wideKeys, modest, calm, conditions, laid).
  DERIVED. THE GIVEN ROWS OF THIS SEAT. 3 by the template 'for every input the law returns true; each argument reads behind the call as it read before'; 0 by the template 'total and deterministic' (their statements: YtpjncojljamacaaGreatTotals.lean).
  GIVEN WITH THE SEED: the statements are not yours to turn. If you find one false, say at which input.
  Laid BY PROGRAM, IN A SANDBOX (cutbox-rows.mjs): the forced cells as the released guide's own fill.sh prints them over the translation db1d5d5457ba1f96… (all of the seat's roots in one cut). By AI agents, Wed Nov 11 2026. No macro, syntax, notation, axiom, sorry.
-/
import Derived.Test.YtpjncojljamacaaGreatChecked
import GoSem.Claim
import GoSem.ClaimJoined
import GoSem.ClaimMapViews
import Derived.JoinedTies
import Derived.KernelRfl
namespace Go.Proofs.YtpjncojljamacaaGreat
/- THE CELL 'sum', in the pinned program and in every row, IS THE sha256 OF THE DUMP (.gsa) THAT YtpjncojljamacaaGreatProg.lean LOADS. Nothing in Lean hashes anything: it is a label: what it is worth is what the hold of that sum in a sandbox is worth. -/
noncomputable def Tryz.pinned : Pinned := { name := "ytpjncojljamacaagreat", sum := "db1d5d5457ba1f963bf790fc30b318f3b4ac2ac980b1c669cdf8886488b23f2d", checked := Tryz.checked }
namespace Rows
def none {H : Type} : Left H := { results := [], args := [] }

/-- 'topiarylaw05.ShapedTurns': WHATEVER THE INPUT: true; the input reads as it did. -/
def shapedTurnsSpec : ChangeSpec := { name := "shapedTurns", fn := fun _ => fun
  | [d1, d2, d3] => { results := [.lit (.bool true)], args := [d1, d2, d3] }
  | _ => none }
def shapedTurnsRow : OpenClaim := { program := "ytpjncojljamacaagreat", sum := "db1d5d5457ba1f963bf790fc30b318f3b4ac2ac980b1c669cdf8886488b23f2d", func := "topiary/topiarylaw05.ShapedTurns", spec := "shapedTurns", inPlace := ["slices.overlaps[topiary/shaped.heap]", "internal/abi.NoEscape", "internal/bytealg.MakeNoZero"], unfollowed := true, recurses := true, apart := false }
def ShapedTurnsSaid : Prop := shapedTurnsRow.holds Tryz.pinned (OpenSpec.ofChange shapedTurnsSpec)

/-- ITS FALSE NEIGHBOUR: 'it returns false'. Refute it at one input. -/
def shapedTurnsWrong : ChangeSpec := { name := "shapedTurns", fn := fun _ => fun
  | [d1, d2, d3] => { results := [.lit (.bool false)], args := [d1, d2, d3] }
  | _ => none }
def ShapedTurnsWrongFalsely : Prop := shapedTurnsRow.holds Tryz.pinned (OpenSpec.ofChange shapedTurnsWrong)

/-- 'topiarylaw05.ShapedTells': WHATEVER THE INPUT: true; the input reads as it did. -/
def shapedTellsSpec : ChangeSpec := { name := "shapedTells", fn := fun _ => fun
  | [d1, d2, d3] => { results := [.lit (.bool true)], args := [d1, d2, d3] }
  | _ => none }
def shapedTellsRow : OpenClaim := { program := "ytpjncojljamacaagreat", sum := "db1d5d5457ba1f963bf790fc30b318f3b4ac2ac980b1c669cdf8886488b23f2d", func := "topiary/topiarylaw05.ShapedTells", spec := "shapedTells", inPlace := ["slices.overlaps[topiary/shaped.heap]", "internal/abi.NoEscape", "internal/bytealg.MakeNoZero"], unfollowed := true, recurses := true, apart := false }
def ShapedTellsSaid : Prop := shapedTellsRow.holds Tryz.pinned (OpenSpec.ofChange shapedTellsSpec)

/-- ITS FALSE NEIGHBOUR: 'it returns false'. Refute it at one input. -/
def shapedTellsWrong : ChangeSpec := { name := "shapedTells", fn := fun _ => fun
  | [d1, d2, d3] => { results := [.lit (.bool false)], args := [d1, d2, d3] }
  | _ => none }
def ShapedTellsWrongFalsely : Prop := shapedTellsRow.holds Tryz.pinned (OpenSpec.ofChange shapedTellsWrong)

/-- 'topiarylaw05.ShapedZero': WHATEVER THE INPUT: true; the input reads as it did. -/
def shapedZeroSpec : ChangeSpec := { name := "shapedZero", fn := fun _ => fun
  | [d] => { results := [.lit (.bool true)], args := [d] }
  | _ => none }
def shapedZeroRow : OpenClaim := { program := "ytpjncojljamacaagreat", sum := "db1d5d5457ba1f963bf790fc30b318f3b4ac2ac980b1c669cdf8886488b23f2d", func := "topiary/topiarylaw05.ShapedZero", spec := "shapedZero", inPlace := ["slices.overlaps[topiary/shaped.heap]", "internal/abi.NoEscape", "internal/bytealg.MakeNoZero"], unfollowed := true, recurses := true, apart := false }
def ShapedZeroSaid : Prop := shapedZeroRow.holds Tryz.pinned (OpenSpec.ofChange shapedZeroSpec)

/-- ITS FALSE NEIGHBOUR: 'it returns false'. Refute it at one input. -/
def shapedZeroWrong : ChangeSpec := { name := "shapedZero", fn := fun _ => fun
  | [d] => { results := [.lit (.bool false)], args := [d] }
  | _ => none }
def ShapedZeroWrongFalsely : Prop := shapedZeroRow.holds Tryz.pinned (OpenSpec.ofChange shapedZeroWrong)

/- THE SECOND FORM. 'bulk': how many values and letters a reading holds, each counted each time it is reached (what is shared counts as often as it is met; a slice's spare places count too). A statement '..UptoSaid' is the law's where the arguments, and the package variables that the reading takes, are together of bulk at most 1048576: NARROWER than '..Said'. Prove '..Said' where nothing that the law and all that it calls make is longer than what came in: it says more and counts as full. Else prove '..UptoSaid'. A law counts once. -/
mutual
def uptoBulk {H : Type} : DataW H → Nat
  | .lit (.string bytes) => bytes.length + 1
  | .lit _ => 1
  | .nil => 1
  | .ptr d => uptoBulk d + 1
  | .slice elems spare => uptoBulkAll elems + uptoBulkAll spare + 1
  | .agg parts => uptoBulkAll parts + 1
  | .iface _ d => uptoBulk d + 1
  | .map entries => uptoBulkEntries entries + 1
  | .held _ => 1
def uptoBulkAll {H : Type} : List (DataW H) → Nat
  | [] => 0
  | d :: r => uptoBulk d + uptoBulkAll r
def uptoBulkEntries {H : Type} : List (Lit × DataW H) → Nat
  | [] => 0
  | x :: r => uptoBulkEntry x + uptoBulkEntries r
def uptoBulkEntry {H : Type} : Lit × DataW H → Nat
  | (.string bytes, d) => bytes.length + uptoBulk d + 1
  | (_, d) => uptoBulk d + 1
 end
def uptoSmall : (H : Type) → List (DataW H) → Bool := fun _ ds => decide (uptoBulkAll ds ≤ 1048576)
def OpenSpec.upto (s : _root_.Go.ChangeSpec) : _root_.Go.OpenSpec := { _root_.Go.OpenSpec.ofChange s with cond := some uptoSmall }

/-- 'topiarylaw05.ShapedTurns', WHERE WHAT IT READS IS OF BULK AT MOST 1048576: true; the input reads as it did. -/
def shapedTurnsUptoRow : OpenClaim := { program := "ytpjncojljamacaagreat", sum := "db1d5d5457ba1f963bf790fc30b318f3b4ac2ac980b1c669cdf8886488b23f2d", func := "topiary/topiarylaw05.ShapedTurns", spec := "shapedTurns", inPlace := ["slices.overlaps[topiary/shaped.heap]", "internal/abi.NoEscape", "internal/bytealg.MakeNoZero"], unfollowed := true, recurses := true, apart := false, narrowed := true }
def ShapedTurnsUptoSaid : Prop := shapedTurnsUptoRow.holds Tryz.pinned (OpenSpec.upto shapedTurnsSpec)

/-- 'topiarylaw05.ShapedTells', WHERE WHAT IT READS IS OF BULK AT MOST 1048576: true; the input reads as it did. -/
def shapedTellsUptoRow : OpenClaim := { program := "ytpjncojljamacaagreat", sum := "db1d5d5457ba1f963bf790fc30b318f3b4ac2ac980b1c669cdf8886488b23f2d", func := "topiary/topiarylaw05.ShapedTells", spec := "shapedTells", inPlace := ["slices.overlaps[topiary/shaped.heap]", "internal/abi.NoEscape", "internal/bytealg.MakeNoZero"], unfollowed := true, recurses := true, apart := false, narrowed := true }
def ShapedTellsUptoSaid : Prop := shapedTellsUptoRow.holds Tryz.pinned (OpenSpec.upto shapedTellsSpec)

/-- 'topiarylaw05.ShapedZero', WHERE WHAT IT READS IS OF BULK AT MOST 1048576: true; the input reads as it did. -/
def shapedZeroUptoRow : OpenClaim := { program := "ytpjncojljamacaagreat", sum := "db1d5d5457ba1f963bf790fc30b318f3b4ac2ac980b1c669cdf8886488b23f2d", func := "topiary/topiarylaw05.ShapedZero", spec := "shapedZero", inPlace := ["slices.overlaps[topiary/shaped.heap]", "internal/abi.NoEscape", "internal/bytealg.MakeNoZero"], unfollowed := true, recurses := true, apart := false, narrowed := true }
def ShapedZeroUptoSaid : Prop := shapedZeroUptoRow.holds Tryz.pinned (OpenSpec.upto shapedZeroSpec)

end Rows
end Go.Proofs.YtpjncojljamacaaGreat
