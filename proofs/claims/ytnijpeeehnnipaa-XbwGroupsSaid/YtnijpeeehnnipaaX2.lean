
/- Chapters 12 and 13 of the document, plainly: pieces, and trees. No condition. -/
import Derived.Test.YtnijpeeehnnipaaX1
set_option linter.unusedVariables false
set_option linter.unusedSimpArgs false
namespace Go.Proofs.Ytnijpeeehnnipaa.AM
open Go Go.RowKit

def cLT : Str := [60]
def cGT : Str := [62]
def cAMP : Str := [38]
def cQ : Str := [34]
def cA : Str := [39]
def eLT : Str := [38, 108, 116, 59]
def eGT : Str := [38, 103, 116, 59]
def eAMP : Str := [38, 97, 109, 112, 59]
def eQ : Str := [38, 113, 117, 111, 116, 59]
def eA : Str := [38, 97, 112, 111, 115, 59]
def mX : Str := [38, 35, 120]
def mD : Str := [38, 35]
def numOk (s : Str) (at_ : Nat) (base : Int) : Bool := decide (0 < (numF s at_ base).2) && allowF (numF s at_ base).1
def entF (s : Str) (at_ : Nat) : Str × Nat :=
  if bgnF s at_ eLT = true then (cLT, 4) else if bgnF s at_ eGT = true then (cGT, 4) else if bgnF s at_ eAMP = true then (cAMP, 5) else if bgnF s at_ eQ = true then (cQ, 6) else if bgnF s at_ eA = true then (cA, 6)
  else if bgnF s at_ mX = true ∧ numOk s (at_ + 3) 16 = true then (utfF (numF s (at_ + 3) 16).1, 3 + (numF s (at_ + 3) 16).2 + 1)
  else if bgnF s at_ mD = true ∧ numOk s (at_ + 2) 10 = true then (utfF (numF s (at_ + 2) 10).1, 2 + (numF s (at_ + 2) 10).2 + 1) else ([], 0)
def findG (s t : Str) : Nat → Nat → Int
  | 0, _ => -1
  | f + 1, i => if i + t.length ≤ s.length then (if (s.drop i).take t.length = t then i else findG s t f (i + 1)) else -1
def findF (s : Str) (at_ : Nat) (t : Str) : Int := findG s t (s.length + 1) at_
def decG (s : Str) : Nat → Nat → Str → Str × Bool
  | 0, _, t => (t, true)
  | f + 1, i, t => if i < s.length then (if bt s i = 38 then (if (entF s i).2 = 0 then ([], false) else decG s f (i + (entF s i).2) (t ++ (entF s i).1)) else decG s f (i + 1) (t ++ (s.drop i).take 1)) else (t, true)
def decF (s : Str) : Str × Bool := decG s s.length 0 []
structure Tk where
  kind : Int
  fr : Int
  to : Int
  name : Str
  val : Str
  deriving DecidableEq
def tk0 : Tk := ⟨0, 0, 0, [], []⟩
def sub (s : Str) (a b : Nat) : Str := (s.drop a).take (b - a)
def attrF (s : Str) (at_ : Nat) : Tk × Bool :=
  if skipF s at_ = at_ ∨ nameF s (skipF s at_) = skipF s at_ then (tk0, false)
  else if bgnF s (skipF s (nameF s (skipF s at_))) [61] = false then (tk0, false)
  else
    let q := skipF s (skipF s (nameF s (skipF s at_)) + 1)
    if bgnF s q [34] = false ∧ bgnF s q [39] = false then (tk0, false)
    else if findF s (q + 1) (sub s q (q + 1)) < 0 then (tk0, false)
    else
      let to := (findF s (q + 1) (sub s q (q + 1))).toNat
      if 0 ≤ findF (sub s (q + 1) to) 0 [60] then (tk0, false)
      else (⟨2, skipF s at_, to + 1, sub s (skipF s at_) (nameF s (skipF s at_)), (decF (sub s (q + 1) to)).1⟩, (decF (sub s (q + 1) to)).2)
def tagG (s : Str) : Nat → Nat → List Tk → List Tk × Bool
  | 0, _, _ => ([], false)
  | f + 1, last, out =>
    if bgnF s (skipF s last) [62] = true then (out ++ [⟨3, skipF s last, skipF s last + 1, [], []⟩], true)
    else if bgnF s (skipF s last) [47, 62] = true then (out ++ [⟨4, skipF s last, skipF s last + 2, [], []⟩], true)
    else if (attrF s last).2 = false then ([], false) else tagG s f (attrF s last).1.to.toNat (out ++ [(attrF s last).1])
def tagF (s : Str) (at_ : Nat) : List Tk × Bool :=
  if nameF s (at_ + 1) = at_ + 1 then ([], false) else tagG s (s.length + 1) (nameF s (at_ + 1)) [⟨1, at_, nameF s (at_ + 1), sub s (at_ + 1) (nameF s (at_ + 1)), []⟩]
def tC : Str := [60, 33, 45, 45]
def tCD : Str := [60, 33, 91, 67, 68, 65, 84, 65, 91]
def pieceF (s : Str) (at_ : Nat) : List Tk × Bool :=
  if bgnF s at_ tC = true then
    if findF s (at_ + 4) [45, 45] < 0 ∨ bgnF s (findF s (at_ + 4) [45, 45]).toNat [45, 45, 62] = false then ([], false)
    else ([⟨7, at_, findF s (at_ + 4) [45, 45] + 3, [], sub s (at_ + 4) (findF s (at_ + 4) [45, 45]).toNat⟩], true)
  else if bgnF s at_ tCD = true then
    if findF s (at_ + 9) [93, 93, 62] < 0 then ([], false)
    else ([⟨6, at_, findF s (at_ + 9) [93, 93, 62] + 3, [], sub s (at_ + 9) (findF s (at_ + 9) [93, 93, 62]).toNat⟩], true)
  else if bgnF s at_ [60, 47] = true then
    if nameF s (at_ + 2) = at_ + 2 ∨ bgnF s (skipF s (nameF s (at_ + 2))) [62] = false then ([], false)
    else ([⟨5, at_, skipF s (nameF s (at_ + 2)) + 1, sub s (at_ + 2) (nameF s (at_ + 2)), []⟩], true)
  else if bgnF s at_ [60] = true then tagF s at_
  else
    let e := if findF s at_ [60] < 0 then s.length else (findF s at_ [60]).toNat
    ([⟨6, at_, e, [], (decF (sub s at_ e)).1⟩], (decF (sub s at_ e)).2)
def lastTo (l : List Tk) : Nat := (l.getD (l.length - 1) tk0).to.toNat
def lexG (s : Str) : Nat → Nat → List Tk → List Tk × Bool
  | 0, _, out => (out, true)
  | f + 1, at_, out => if at_ < s.length then (if (pieceF s at_).2 = false ∨ (pieceF s at_).1 = [] then ([], false) else lexG s f (lastTo (pieceF s at_).1) (out ++ (pieceF s at_).1)) else (out, true)
def lexF (s : Str) : List Tk × Int := if 65536 < s.length then ([], 18) else if validF s = false then ([], 15) else if (lexG s s.length 0 []).2 = false then ([], 15) else ((lexG s s.length 0 []).1, 0)
def txtG (l : List Tk) : Nat → Nat → Str → Str × Nat
  | 0, i, s => (s, i)
  | f + 1, i, s => if i < l.length ∧ ((l.getD i tk0).kind = 6 ∨ (l.getD i tk0).kind = 7) then txtG l f (i + 1) (if (l.getD i tk0).kind = 6 then s ++ (l.getD i tk0).val else s) else (s, i)
def txtF (l : List Tk) (i : Nat) : Str × Nat := txtG l l.length i []
structure Nm where
  kind : Int
  num : Int
  par : Int
  val : Str
  name : Str
def nm0 : Nm := ⟨0, 0, 0, [], []⟩
def attG (l : List Tk) (me : Nat) : Nat → Nat → List Nm → List Nm × Nat × Bool
  | 0, i, ns => (ns, i, true)
  | f + 1, i, ns => if i < l.length ∧ (l.getD i tk0).kind = 2 then
      (if ((ns.drop (me + 1)).any fun x => decide (x.name = (l.getD i tk0).name)) then (ns, i, false) else attG l me f (i + 1) (ns ++ [⟨2, 0, me, (l.getD i tk0).val, (l.getD i tk0).name⟩])) else (ns, i, true)
def kidG (rec : Nat → List Nm → List Nm × Nat × Bool) (l : List Tk) (me : Nat) (name : Str) : Nat → Nat → List Nm → List Nm × Nat × Bool
  | 0, i, ns => (ns, i, false)
  | f + 1, i, ns =>
    let ns1 := if (txtF l i).1 = [] then ns else ns ++ [⟨3, -1, me, (txtF l i).1, []⟩]
    let j := (txtF l i).2
    if l.length ≤ j then (ns1, j, false)
    else if (l.getD j tk0).kind = 5 then (ns1, j + 1, decide ((l.getD j tk0).name = name))
    else if (rec j ns1).2.2 = false then ((rec j ns1).1, (rec j ns1).2.1, false) else kidG rec l me name f (rec j ns1).2.1 (rec j ns1).1
def elemG (l : List Tk) : Nat → Nat → Int → List Nm → List Nm × Nat × Bool
  | 0, i, _, ns => (ns, i, false)
  | f + 1, i, par, ns =>
    if l.length ≤ i ∨ (l.getD i tk0).kind ≠ 1 then (ns, i, false)
    else
      let a := attG l ns.length l.length (i + 1) (ns ++ [⟨1, 0, par, [], (l.getD i tk0).name⟩])
      if a.2.2 = false then a
      else if l.length ≤ a.2.1 then (a.1, a.2.1, false)
      else if (l.getD a.2.1 tk0).kind = 4 then (a.1, a.2.1 + 1, true)
      else kidG (fun j m => elemG l f j ns.length m) l ns.length (l.getD i tk0).name (l.length + 1) (a.2.1 + 1) a.1
def withG (s : Str) : List Str → List Str
  | [] => [s]
  | x :: l => if Op.bytesLess x s = false ∧ x ≠ s then s :: x :: l else x :: withG s l
def withF (l : List Str) (s : Str) : List Str := if s ∈ l then l else withG s l
def numbF (l : List Str) (s : Str) : Int := if s ∈ l then (l.idxOf s : Nat) else -1
end Go.Proofs.Ytnijpeeehnnipaa.AM
