
/- Trees, as values. No condition. -/
import Derived.Test.YtnijpeeehnnipaaXS
set_option linter.unusedVariables false
set_option linter.unusedSimpArgs false
namespace Go.Proofs.Ytnijpeeehnnipaa.AM
open Go Go.RowKit

structure Nd where
  kind : Int
  name : Int
  par : Int
  val : List UInt8
structure Tr where
  names : List (List UInt8)
  nodes : List Nd
def nd0 : Nd := ⟨0, 0, 0, []⟩
def Tr.at (t : Tr) (i : Nat) : Nd := t.nodes.getD i nd0
def Tr.len (t : Tr) : Nat := t.nodes.length
def ndV (n : Nd) : IV := .agg [.int .i64 n.kind, .int .i64 n.name, .int .i64 n.par, .str (bs n.val)]
def trV (t : Tr) : IV := .agg [.sl 1 (t.names.map fun s => IV.str (bs s)), .sl 4 (t.nodes.map ndV)]
def tr0 : Tr := ⟨[], []⟩
end Go.Proofs.Ytnijpeeehnnipaa.AM
