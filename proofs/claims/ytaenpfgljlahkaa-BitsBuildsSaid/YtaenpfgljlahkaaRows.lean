/-
  No cell of these rows narrows 'for every input' (looked for: loops, veiled, ifaces, maps, wideKeys, modest, calm, conditions, laid).
  DERIVED. THE GIVEN ROWS OF THIS SEAT. 30 by the template 'for every input the law returns true; each argument reads behind the call as it read before'; 0 by the template 'total and deterministic' (their statements: YtaenpfgljlahkaaTotals.lean).
  GIVEN WITH THE SEED: the statements are not yours to turn. If you find one false, say at which input.
  Laid BY PROGRAM, IN A SANDBOX (cutbox-rows.mjs): the forced cells as the released guide's own fill.sh prints them over the translation 0704e4bf90e41192… (all of the seat's roots in one cut). By AI agents, Wed Nov 11 2026. No macro, syntax, notation, axiom, sorry.
-/
import Derived.Test.YtaenpfgljlahkaaChecked
import GoSem.Claim
import GoSem.ClaimJoined
import GoSem.ClaimMapViews
import Derived.JoinedTies
import Derived.KernelRfl
namespace Go.Proofs.Ytaenpfgljlahkaa
/- THE CELL 'sum', in the pinned program and in every row, IS THE sha256 OF THE DUMP (.gsa) THAT YtaenpfgljlahkaaProg.lean LOADS. Nothing in Lean hashes anything: it is a label: what it is worth is what the hold of that sum in a sandbox is worth. -/
noncomputable def Try.pinned : Pinned := { name := "ytaenpfgljlahkaa", sum := "0704e4bf90e4119218f2fbf26f34de0e3ab7e98f4057315228acf90df5dc95ab", checked := Try.checked }
namespace Rows
def none {H : Type} : Left H := { results := [], args := [] }

/-- 'topiarylaw01.BitsSame': WHATEVER THE INPUT: true; the input reads as it did. -/
def bitsSameSpec : ChangeSpec := { name := "bitsSame", fn := fun _ => fun
  | [d1, d2] => { results := [.lit (.bool true)], args := [d1, d2] }
  | _ => none }
def bitsSameRow : OpenClaim := { program := "ytaenpfgljlahkaa", sum := "0704e4bf90e4119218f2fbf26f34de0e3ab7e98f4057315228acf90df5dc95ab", func := "topiary/topiarylaw01.BitsSame", spec := "bitsSame", unfollowed := true, recurses := true, apart := false }
def BitsSameSaid : Prop := bitsSameRow.holds Try.pinned (OpenSpec.ofChange bitsSameSpec)

/-- ITS FALSE NEIGHBOUR: 'it returns false'. Refute it at one input. -/
def bitsSameWrong : ChangeSpec := { name := "bitsSame", fn := fun _ => fun
  | [d1, d2] => { results := [.lit (.bool false)], args := [d1, d2] }
  | _ => none }
def BitsSameWrongFalsely : Prop := bitsSameRow.holds Try.pinned (OpenSpec.ofChange bitsSameWrong)

/-- 'topiarylaw01.BitsJoins': WHATEVER THE INPUT: true; the input reads as it did. -/
def bitsJoinsSpec : ChangeSpec := { name := "bitsJoins", fn := fun _ => fun
  | [d1, d2] => { results := [.lit (.bool true)], args := [d1, d2] }
  | _ => none }
def bitsJoinsRow : OpenClaim := { program := "ytaenpfgljlahkaa", sum := "0704e4bf90e4119218f2fbf26f34de0e3ab7e98f4057315228acf90df5dc95ab", func := "topiary/topiarylaw01.BitsJoins", spec := "bitsJoins", unfollowed := true, recurses := true, apart := false }
def BitsJoinsSaid : Prop := bitsJoinsRow.holds Try.pinned (OpenSpec.ofChange bitsJoinsSpec)

/-- ITS FALSE NEIGHBOUR: 'it returns false'. Refute it at one input. -/
def bitsJoinsWrong : ChangeSpec := { name := "bitsJoins", fn := fun _ => fun
  | [d1, d2] => { results := [.lit (.bool false)], args := [d1, d2] }
  | _ => none }
def BitsJoinsWrongFalsely : Prop := bitsJoinsRow.holds Try.pinned (OpenSpec.ofChange bitsJoinsWrong)

/-- 'topiarylaw02.IntsFind': WHATEVER THE INPUT: true; the input reads as it did. -/
def intsFindSpec : ChangeSpec := { name := "intsFind", fn := fun _ => fun
  | [d1, d2] => { results := [.lit (.bool true)], args := [d1, d2] }
  | _ => none }
def intsFindRow : OpenClaim := { program := "ytaenpfgljlahkaa", sum := "0704e4bf90e4119218f2fbf26f34de0e3ab7e98f4057315228acf90df5dc95ab", func := "topiary/topiarylaw02.IntsFind", spec := "intsFind", unfollowed := true, recurses := true, apart := false }
def IntsFindSaid : Prop := intsFindRow.holds Try.pinned (OpenSpec.ofChange intsFindSpec)

/-- ITS FALSE NEIGHBOUR: 'it returns false'. Refute it at one input. -/
def intsFindWrong : ChangeSpec := { name := "intsFind", fn := fun _ => fun
  | [d1, d2] => { results := [.lit (.bool false)], args := [d1, d2] }
  | _ => none }
def IntsFindWrongFalsely : Prop := intsFindRow.holds Try.pinned (OpenSpec.ofChange intsFindWrong)

/-- 'topiarylaw02.IntsWide': WHATEVER THE INPUT: true; the input reads as it did. -/
def intsWideSpec : ChangeSpec := { name := "intsWide", fn := fun _ => fun
  | [d1, d2] => { results := [.lit (.bool true)], args := [d1, d2] }
  | _ => none }
def intsWideRow : OpenClaim := { program := "ytaenpfgljlahkaa", sum := "0704e4bf90e4119218f2fbf26f34de0e3ab7e98f4057315228acf90df5dc95ab", func := "topiary/topiarylaw02.IntsWide", spec := "intsWide", unfollowed := true, recurses := true, apart := false }
def IntsWideSaid : Prop := intsWideRow.holds Try.pinned (OpenSpec.ofChange intsWideSpec)

/-- ITS FALSE NEIGHBOUR: 'it returns false'. Refute it at one input. -/
def intsWideWrong : ChangeSpec := { name := "intsWide", fn := fun _ => fun
  | [d1, d2] => { results := [.lit (.bool false)], args := [d1, d2] }
  | _ => none }
def IntsWideWrongFalsely : Prop := intsWideRow.holds Try.pinned (OpenSpec.ofChange intsWideWrong)

/-- 'topiarylaw01.BitsCount': WHATEVER THE INPUT: true; the input reads as it did. -/
def bitsCountSpec : ChangeSpec := { name := "bitsCount", fn := fun _ => fun
  | [d1, d2] => { results := [.lit (.bool true)], args := [d1, d2] }
  | _ => none }
def bitsCountRow : OpenClaim := { program := "ytaenpfgljlahkaa", sum := "0704e4bf90e4119218f2fbf26f34de0e3ab7e98f4057315228acf90df5dc95ab", func := "topiary/topiarylaw01.BitsCount", spec := "bitsCount", unfollowed := true, recurses := true, apart := false }
def BitsCountSaid : Prop := bitsCountRow.holds Try.pinned (OpenSpec.ofChange bitsCountSpec)

/-- ITS FALSE NEIGHBOUR: 'it returns false'. Refute it at one input. -/
def bitsCountWrong : ChangeSpec := { name := "bitsCount", fn := fun _ => fun
  | [d1, d2] => { results := [.lit (.bool false)], args := [d1, d2] }
  | _ => none }
def BitsCountWrongFalsely : Prop := bitsCountRow.holds Try.pinned (OpenSpec.ofChange bitsCountWrong)

/-- 'topiarylaw02.IntsRows': WHATEVER THE INPUT: true; the input reads as it did. -/
def intsRowsSpec : ChangeSpec := { name := "intsRows", fn := fun _ => fun
  | [d1, d2, d3] => { results := [.lit (.bool true)], args := [d1, d2, d3] }
  | _ => none }
def intsRowsRow : OpenClaim := { program := "ytaenpfgljlahkaa", sum := "0704e4bf90e4119218f2fbf26f34de0e3ab7e98f4057315228acf90df5dc95ab", func := "topiary/topiarylaw02.IntsRows", spec := "intsRows", unfollowed := true, recurses := true, apart := false }
def IntsRowsSaid : Prop := intsRowsRow.holds Try.pinned (OpenSpec.ofChange intsRowsSpec)

/-- ITS FALSE NEIGHBOUR: 'it returns false'. Refute it at one input. -/
def intsRowsWrong : ChangeSpec := { name := "intsRows", fn := fun _ => fun
  | [d1, d2, d3] => { results := [.lit (.bool false)], args := [d1, d2, d3] }
  | _ => none }
def IntsRowsWrongFalsely : Prop := intsRowsRow.holds Try.pinned (OpenSpec.ofChange intsRowsWrong)

/-- 'topiarylaw01.BitsBuilds': WHATEVER THE INPUT: true; the input reads as it did. -/
def bitsBuildsSpec : ChangeSpec := { name := "bitsBuilds", fn := fun _ => fun
  | [d] => { results := [.lit (.bool true)], args := [d] }
  | _ => none }
def bitsBuildsRow : OpenClaim := { program := "ytaenpfgljlahkaa", sum := "0704e4bf90e4119218f2fbf26f34de0e3ab7e98f4057315228acf90df5dc95ab", func := "topiary/topiarylaw01.BitsBuilds", spec := "bitsBuilds", unfollowed := true, recurses := true, apart := false }
def BitsBuildsSaid : Prop := bitsBuildsRow.holds Try.pinned (OpenSpec.ofChange bitsBuildsSpec)

/-- ITS FALSE NEIGHBOUR: 'it returns false'. Refute it at one input. -/
def bitsBuildsWrong : ChangeSpec := { name := "bitsBuilds", fn := fun _ => fun
  | [d] => { results := [.lit (.bool false)], args := [d] }
  | _ => none }
def BitsBuildsWrongFalsely : Prop := bitsBuildsRow.holds Try.pinned (OpenSpec.ofChange bitsBuildsWrong)

/-- 'topiarylaw01.BitsBack': WHATEVER THE INPUT: true; the input reads as it did. -/
def bitsBackSpec : ChangeSpec := { name := "bitsBack", fn := fun _ => fun
  | [d1, d2] => { results := [.lit (.bool true)], args := [d1, d2] }
  | _ => none }
def bitsBackRow : OpenClaim := { program := "ytaenpfgljlahkaa", sum := "0704e4bf90e4119218f2fbf26f34de0e3ab7e98f4057315228acf90df5dc95ab", func := "topiary/topiarylaw01.BitsBack", spec := "bitsBack", unfollowed := true, recurses := true, apart := false }
def BitsBackSaid : Prop := bitsBackRow.holds Try.pinned (OpenSpec.ofChange bitsBackSpec)

/-- ITS FALSE NEIGHBOUR: 'it returns false'. Refute it at one input. -/
def bitsBackWrong : ChangeSpec := { name := "bitsBack", fn := fun _ => fun
  | [d1, d2] => { results := [.lit (.bool false)], args := [d1, d2] }
  | _ => none }
def BitsBackWrongFalsely : Prop := bitsBackRow.holds Try.pinned (OpenSpec.ofChange bitsBackWrong)

/-- 'topiarylaw02.IntsSame': WHATEVER THE INPUT: true; the input reads as it did. -/
def intsSameSpec : ChangeSpec := { name := "intsSame", fn := fun _ => fun
  | [d1, d2, d3] => { results := [.lit (.bool true)], args := [d1, d2, d3] }
  | _ => none }
def intsSameRow : OpenClaim := { program := "ytaenpfgljlahkaa", sum := "0704e4bf90e4119218f2fbf26f34de0e3ab7e98f4057315228acf90df5dc95ab", func := "topiary/topiarylaw02.IntsSame", spec := "intsSame", unfollowed := true, recurses := true, apart := false }
def IntsSameSaid : Prop := intsSameRow.holds Try.pinned (OpenSpec.ofChange intsSameSpec)

/-- ITS FALSE NEIGHBOUR: 'it returns false'. Refute it at one input. -/
def intsSameWrong : ChangeSpec := { name := "intsSame", fn := fun _ => fun
  | [d1, d2, d3] => { results := [.lit (.bool false)], args := [d1, d2, d3] }
  | _ => none }
def IntsSameWrongFalsely : Prop := intsSameRow.holds Try.pinned (OpenSpec.ofChange intsSameWrong)

/-- 'topiarylaw01.BitsRows': WHATEVER THE INPUT: true; the input reads as it did. -/
def bitsRowsSpec : ChangeSpec := { name := "bitsRows", fn := fun _ => fun
  | [d1, d2] => { results := [.lit (.bool true)], args := [d1, d2] }
  | _ => none }
def bitsRowsRow : OpenClaim := { program := "ytaenpfgljlahkaa", sum := "0704e4bf90e4119218f2fbf26f34de0e3ab7e98f4057315228acf90df5dc95ab", func := "topiary/topiarylaw01.BitsRows", spec := "bitsRows", unfollowed := true, recurses := true, apart := false }
def BitsRowsSaid : Prop := bitsRowsRow.holds Try.pinned (OpenSpec.ofChange bitsRowsSpec)

/-- ITS FALSE NEIGHBOUR: 'it returns false'. Refute it at one input. -/
def bitsRowsWrong : ChangeSpec := { name := "bitsRows", fn := fun _ => fun
  | [d1, d2] => { results := [.lit (.bool false)], args := [d1, d2] }
  | _ => none }
def BitsRowsWrongFalsely : Prop := bitsRowsRow.holds Try.pinned (OpenSpec.ofChange bitsRowsWrong)

/-- 'topiarylaw01.BitsNil': WHATEVER THE INPUT: true; the input reads as it did. -/
def bitsNilSpec : ChangeSpec := { name := "bitsNil", fn := fun _ => fun
  | [d] => { results := [.lit (.bool true)], args := [d] }
  | _ => none }
def bitsNilRow : OpenClaim := { program := "ytaenpfgljlahkaa", sum := "0704e4bf90e4119218f2fbf26f34de0e3ab7e98f4057315228acf90df5dc95ab", func := "topiary/topiarylaw01.BitsNil", spec := "bitsNil", unfollowed := true, recurses := true, apart := false }
def BitsNilSaid : Prop := bitsNilRow.holds Try.pinned (OpenSpec.ofChange bitsNilSpec)

/-- ITS FALSE NEIGHBOUR: 'it returns false'. Refute it at one input. -/
def bitsNilWrong : ChangeSpec := { name := "bitsNil", fn := fun _ => fun
  | [d] => { results := [.lit (.bool false)], args := [d] }
  | _ => none }
def BitsNilWrongFalsely : Prop := bitsNilRow.holds Try.pinned (OpenSpec.ofChange bitsNilWrong)

/-- 'topiarylaw01.BitsReads': WHATEVER THE INPUT: true; the input reads as it did. -/
def bitsReadsSpec : ChangeSpec := { name := "bitsReads", fn := fun _ => fun
  | [d1, d2, d3] => { results := [.lit (.bool true)], args := [d1, d2, d3] }
  | _ => none }
def bitsReadsRow : OpenClaim := { program := "ytaenpfgljlahkaa", sum := "0704e4bf90e4119218f2fbf26f34de0e3ab7e98f4057315228acf90df5dc95ab", func := "topiary/topiarylaw01.BitsReads", spec := "bitsReads", unfollowed := true, recurses := true, apart := false }
def BitsReadsSaid : Prop := bitsReadsRow.holds Try.pinned (OpenSpec.ofChange bitsReadsSpec)

/-- ITS FALSE NEIGHBOUR: 'it returns false'. Refute it at one input. -/
def bitsReadsWrong : ChangeSpec := { name := "bitsReads", fn := fun _ => fun
  | [d1, d2, d3] => { results := [.lit (.bool false)], args := [d1, d2, d3] }
  | _ => none }
def BitsReadsWrongFalsely : Prop := bitsReadsRow.holds Try.pinned (OpenSpec.ofChange bitsReadsWrong)

/-- 'topiarylaw02.IntsReads': WHATEVER THE INPUT: true; the input reads as it did. -/
def intsReadsSpec : ChangeSpec := { name := "intsReads", fn := fun _ => fun
  | [d1, d2, d3] => { results := [.lit (.bool true)], args := [d1, d2, d3] }
  | _ => none }
def intsReadsRow : OpenClaim := { program := "ytaenpfgljlahkaa", sum := "0704e4bf90e4119218f2fbf26f34de0e3ab7e98f4057315228acf90df5dc95ab", func := "topiary/topiarylaw02.IntsReads", spec := "intsReads", unfollowed := true, recurses := true, apart := false }
def IntsReadsSaid : Prop := intsReadsRow.holds Try.pinned (OpenSpec.ofChange intsReadsSpec)

/-- ITS FALSE NEIGHBOUR: 'it returns false'. Refute it at one input. -/
def intsReadsWrong : ChangeSpec := { name := "intsReads", fn := fun _ => fun
  | [d1, d2, d3] => { results := [.lit (.bool false)], args := [d1, d2, d3] }
  | _ => none }
def IntsReadsWrongFalsely : Prop := intsReadsRow.holds Try.pinned (OpenSpec.ofChange intsReadsWrong)

/-- 'topiarylaw02.IntsTight': WHATEVER THE INPUT: true; the input reads as it did. -/
def intsTightSpec : ChangeSpec := { name := "intsTight", fn := fun _ => fun
  | [d] => { results := [.lit (.bool true)], args := [d] }
  | _ => none }
def intsTightRow : OpenClaim := { program := "ytaenpfgljlahkaa", sum := "0704e4bf90e4119218f2fbf26f34de0e3ab7e98f4057315228acf90df5dc95ab", func := "topiary/topiarylaw02.IntsTight", spec := "intsTight", unfollowed := true, recurses := true, apart := false }
def IntsTightSaid : Prop := intsTightRow.holds Try.pinned (OpenSpec.ofChange intsTightSpec)

/-- ITS FALSE NEIGHBOUR: 'it returns false'. Refute it at one input. -/
def intsTightWrong : ChangeSpec := { name := "intsTight", fn := fun _ => fun
  | [d] => { results := [.lit (.bool false)], args := [d] }
  | _ => none }
def IntsTightWrongFalsely : Prop := intsTightRow.holds Try.pinned (OpenSpec.ofChange intsTightWrong)

/-- 'topiarylaw03.RankFinds': WHATEVER THE INPUT: true; the input reads as it did. -/
def rankFindsSpec : ChangeSpec := { name := "rankFinds", fn := fun _ => fun
  | [d1, d2, d3] => { results := [.lit (.bool true)], args := [d1, d2, d3] }
  | _ => none }
def rankFindsRow : OpenClaim := { program := "ytaenpfgljlahkaa", sum := "0704e4bf90e4119218f2fbf26f34de0e3ab7e98f4057315228acf90df5dc95ab", func := "topiary/topiarylaw03.RankFinds", spec := "rankFinds", unfollowed := true, recurses := true, apart := false }
def RankFindsSaid : Prop := rankFindsRow.holds Try.pinned (OpenSpec.ofChange rankFindsSpec)

/-- ITS FALSE NEIGHBOUR: 'it returns false'. Refute it at one input. -/
def rankFindsWrong : ChangeSpec := { name := "rankFinds", fn := fun _ => fun
  | [d1, d2, d3] => { results := [.lit (.bool false)], args := [d1, d2, d3] }
  | _ => none }
def RankFindsWrongFalsely : Prop := rankFindsRow.holds Try.pinned (OpenSpec.ofChange rankFindsWrong)

/-- 'topiarylaw03.RankTurns': WHATEVER THE INPUT: true; the input reads as it did. -/
def rankTurnsSpec : ChangeSpec := { name := "rankTurns", fn := fun _ => fun
  | [d1, d2, d3] => { results := [.lit (.bool true)], args := [d1, d2, d3] }
  | _ => none }
def rankTurnsRow : OpenClaim := { program := "ytaenpfgljlahkaa", sum := "0704e4bf90e4119218f2fbf26f34de0e3ab7e98f4057315228acf90df5dc95ab", func := "topiary/topiarylaw03.RankTurns", spec := "rankTurns", unfollowed := true, recurses := true, apart := false }
def RankTurnsSaid : Prop := rankTurnsRow.holds Try.pinned (OpenSpec.ofChange rankTurnsSpec)

/-- ITS FALSE NEIGHBOUR: 'it returns false'. Refute it at one input. -/
def rankTurnsWrong : ChangeSpec := { name := "rankTurns", fn := fun _ => fun
  | [d1, d2, d3] => { results := [.lit (.bool false)], args := [d1, d2, d3] }
  | _ => none }
def RankTurnsWrongFalsely : Prop := rankTurnsRow.holds Try.pinned (OpenSpec.ofChange rankTurnsWrong)

/-- 'topiarylaw03.RankTurned': WHATEVER THE INPUT: true; the input reads as it did. -/
def rankTurnedSpec : ChangeSpec := { name := "rankTurned", fn := fun _ => fun
  | [d1, d2, d3] => { results := [.lit (.bool true)], args := [d1, d2, d3] }
  | _ => none }
def rankTurnedRow : OpenClaim := { program := "ytaenpfgljlahkaa", sum := "0704e4bf90e4119218f2fbf26f34de0e3ab7e98f4057315228acf90df5dc95ab", func := "topiary/topiarylaw03.RankTurned", spec := "rankTurned", unfollowed := true, recurses := true, apart := false }
def RankTurnedSaid : Prop := rankTurnedRow.holds Try.pinned (OpenSpec.ofChange rankTurnedSpec)

/-- ITS FALSE NEIGHBOUR: 'it returns false'. Refute it at one input. -/
def rankTurnedWrong : ChangeSpec := { name := "rankTurned", fn := fun _ => fun
  | [d1, d2, d3] => { results := [.lit (.bool false)], args := [d1, d2, d3] }
  | _ => none }
def RankTurnedWrongFalsely : Prop := rankTurnedRow.holds Try.pinned (OpenSpec.ofChange rankTurnedWrong)

/-- 'topiarylaw03.RankEdges': WHATEVER THE INPUT: true; the input reads as it did. -/
def rankEdgesSpec : ChangeSpec := { name := "rankEdges", fn := fun _ => fun
  | [d1, d2] => { results := [.lit (.bool true)], args := [d1, d2] }
  | _ => none }
def rankEdgesRow : OpenClaim := { program := "ytaenpfgljlahkaa", sum := "0704e4bf90e4119218f2fbf26f34de0e3ab7e98f4057315228acf90df5dc95ab", func := "topiary/topiarylaw03.RankEdges", spec := "rankEdges", unfollowed := true, recurses := true, apart := false }
def RankEdgesSaid : Prop := rankEdgesRow.holds Try.pinned (OpenSpec.ofChange rankEdgesSpec)

/-- ITS FALSE NEIGHBOUR: 'it returns false'. Refute it at one input. -/
def rankEdgesWrong : ChangeSpec := { name := "rankEdges", fn := fun _ => fun
  | [d1, d2] => { results := [.lit (.bool false)], args := [d1, d2] }
  | _ => none }
def RankEdgesWrongFalsely : Prop := rankEdgesRow.holds Try.pinned (OpenSpec.ofChange rankEdgesWrong)

/-- 'topiarylaw03.RankZero': WHATEVER THE INPUT: true; the input reads as it did. -/
def rankZeroSpec : ChangeSpec := { name := "rankZero", fn := fun _ => fun
  | [d] => { results := [.lit (.bool true)], args := [d] }
  | _ => none }
def rankZeroRow : OpenClaim := { program := "ytaenpfgljlahkaa", sum := "0704e4bf90e4119218f2fbf26f34de0e3ab7e98f4057315228acf90df5dc95ab", func := "topiary/topiarylaw03.RankZero", spec := "rankZero", unfollowed := true, recurses := true, apart := false }
def RankZeroSaid : Prop := rankZeroRow.holds Try.pinned (OpenSpec.ofChange rankZeroSpec)

/-- ITS FALSE NEIGHBOUR: 'it returns false'. Refute it at one input. -/
def rankZeroWrong : ChangeSpec := { name := "rankZero", fn := fun _ => fun
  | [d] => { results := [.lit (.bool false)], args := [d] }
  | _ => none }
def RankZeroWrongFalsely : Prop := rankZeroRow.holds Try.pinned (OpenSpec.ofChange rankZeroWrong)

/-- 'topiarylaw03.RankCounts': WHATEVER THE INPUT: true; the input reads as it did. -/
def rankCountsSpec : ChangeSpec := { name := "rankCounts", fn := fun _ => fun
  | [d1, d2] => { results := [.lit (.bool true)], args := [d1, d2] }
  | _ => none }
def rankCountsRow : OpenClaim := { program := "ytaenpfgljlahkaa", sum := "0704e4bf90e4119218f2fbf26f34de0e3ab7e98f4057315228acf90df5dc95ab", func := "topiary/topiarylaw03.RankCounts", spec := "rankCounts", unfollowed := true, recurses := true, apart := false }
def RankCountsSaid : Prop := rankCountsRow.holds Try.pinned (OpenSpec.ofChange rankCountsSpec)

/-- ITS FALSE NEIGHBOUR: 'it returns false'. Refute it at one input. -/
def rankCountsWrong : ChangeSpec := { name := "rankCounts", fn := fun _ => fun
  | [d1, d2] => { results := [.lit (.bool false)], args := [d1, d2] }
  | _ => none }
def RankCountsWrongFalsely : Prop := rankCountsRow.holds Try.pinned (OpenSpec.ofChange rankCountsWrong)

/-- 'topiarylaw04.WaveTurns': WHATEVER THE INPUT: true; the input reads as it did. -/
def waveTurnsSpec : ChangeSpec := { name := "waveTurns", fn := fun _ => fun
  | [d1, d2, d3] => { results := [.lit (.bool true)], args := [d1, d2, d3] }
  | _ => none }
def waveTurnsRow : OpenClaim := { program := "ytaenpfgljlahkaa", sum := "0704e4bf90e4119218f2fbf26f34de0e3ab7e98f4057315228acf90df5dc95ab", func := "topiary/topiarylaw04.WaveTurns", spec := "waveTurns", unfollowed := true, recurses := true, apart := false }
def WaveTurnsSaid : Prop := waveTurnsRow.holds Try.pinned (OpenSpec.ofChange waveTurnsSpec)

/-- ITS FALSE NEIGHBOUR: 'it returns false'. Refute it at one input. -/
def waveTurnsWrong : ChangeSpec := { name := "waveTurns", fn := fun _ => fun
  | [d1, d2, d3] => { results := [.lit (.bool false)], args := [d1, d2, d3] }
  | _ => none }
def WaveTurnsWrongFalsely : Prop := waveTurnsRow.holds Try.pinned (OpenSpec.ofChange waveTurnsWrong)

/-- 'topiarylaw04.WaveParts': WHATEVER THE INPUT: true; the input reads as it did. -/
def wavePartsSpec : ChangeSpec := { name := "waveParts", fn := fun _ => fun
  | [d1, d2, d3] => { results := [.lit (.bool true)], args := [d1, d2, d3] }
  | _ => none }
def wavePartsRow : OpenClaim := { program := "ytaenpfgljlahkaa", sum := "0704e4bf90e4119218f2fbf26f34de0e3ab7e98f4057315228acf90df5dc95ab", func := "topiary/topiarylaw04.WaveParts", spec := "waveParts", unfollowed := true, recurses := true, apart := false }
def WavePartsSaid : Prop := wavePartsRow.holds Try.pinned (OpenSpec.ofChange wavePartsSpec)

/-- ITS FALSE NEIGHBOUR: 'it returns false'. Refute it at one input. -/
def wavePartsWrong : ChangeSpec := { name := "waveParts", fn := fun _ => fun
  | [d1, d2, d3] => { results := [.lit (.bool false)], args := [d1, d2, d3] }
  | _ => none }
def WavePartsWrongFalsely : Prop := wavePartsRow.holds Try.pinned (OpenSpec.ofChange wavePartsWrong)

/-- 'topiarylaw04.WaveTells': WHATEVER THE INPUT: true; the input reads as it did. -/
def waveTellsSpec : ChangeSpec := { name := "waveTells", fn := fun _ => fun
  | [d1, d2, d3] => { results := [.lit (.bool true)], args := [d1, d2, d3] }
  | _ => none }
def waveTellsRow : OpenClaim := { program := "ytaenpfgljlahkaa", sum := "0704e4bf90e4119218f2fbf26f34de0e3ab7e98f4057315228acf90df5dc95ab", func := "topiary/topiarylaw04.WaveTells", spec := "waveTells", unfollowed := true, recurses := true, apart := false }
def WaveTellsSaid : Prop := waveTellsRow.holds Try.pinned (OpenSpec.ofChange waveTellsSpec)

/-- ITS FALSE NEIGHBOUR: 'it returns false'. Refute it at one input. -/
def waveTellsWrong : ChangeSpec := { name := "waveTells", fn := fun _ => fun
  | [d1, d2, d3] => { results := [.lit (.bool false)], args := [d1, d2, d3] }
  | _ => none }
def WaveTellsWrongFalsely : Prop := waveTellsRow.holds Try.pinned (OpenSpec.ofChange waveTellsWrong)

/-- 'topiarylaw04.WaveZero': WHATEVER THE INPUT: true; the input reads as it did. -/
def waveZeroSpec : ChangeSpec := { name := "waveZero", fn := fun _ => fun
  | [d] => { results := [.lit (.bool true)], args := [d] }
  | _ => none }
def waveZeroRow : OpenClaim := { program := "ytaenpfgljlahkaa", sum := "0704e4bf90e4119218f2fbf26f34de0e3ab7e98f4057315228acf90df5dc95ab", func := "topiary/topiarylaw04.WaveZero", spec := "waveZero", unfollowed := true, recurses := true, apart := false }
def WaveZeroSaid : Prop := waveZeroRow.holds Try.pinned (OpenSpec.ofChange waveZeroSpec)

/-- ITS FALSE NEIGHBOUR: 'it returns false'. Refute it at one input. -/
def waveZeroWrong : ChangeSpec := { name := "waveZero", fn := fun _ => fun
  | [d] => { results := [.lit (.bool false)], args := [d] }
  | _ => none }
def WaveZeroWrongFalsely : Prop := waveZeroRow.holds Try.pinned (OpenSpec.ofChange waveZeroWrong)

/-- 'topiarylaw04.WaveMakes': WHATEVER THE INPUT: true; the input reads as it did. -/
def waveMakesSpec : ChangeSpec := { name := "waveMakes", fn := fun _ => fun
  | [d1, d2] => { results := [.lit (.bool true)], args := [d1, d2] }
  | _ => none }
def waveMakesRow : OpenClaim := { program := "ytaenpfgljlahkaa", sum := "0704e4bf90e4119218f2fbf26f34de0e3ab7e98f4057315228acf90df5dc95ab", func := "topiary/topiarylaw04.WaveMakes", spec := "waveMakes", unfollowed := true, recurses := true, apart := false }
def WaveMakesSaid : Prop := waveMakesRow.holds Try.pinned (OpenSpec.ofChange waveMakesSpec)

/-- ITS FALSE NEIGHBOUR: 'it returns false'. Refute it at one input. -/
def waveMakesWrong : ChangeSpec := { name := "waveMakes", fn := fun _ => fun
  | [d1, d2] => { results := [.lit (.bool false)], args := [d1, d2] }
  | _ => none }
def WaveMakesWrongFalsely : Prop := waveMakesRow.holds Try.pinned (OpenSpec.ofChange waveMakesWrong)

/-- 'topiarylaw04.WaveLoads': WHATEVER THE INPUT: true; the input reads as it did. -/
def waveLoadsSpec : ChangeSpec := { name := "waveLoads", fn := fun _ => fun
  | [d1, d2, d3] => { results := [.lit (.bool true)], args := [d1, d2, d3] }
  | _ => none }
def waveLoadsRow : OpenClaim := { program := "ytaenpfgljlahkaa", sum := "0704e4bf90e4119218f2fbf26f34de0e3ab7e98f4057315228acf90df5dc95ab", func := "topiary/topiarylaw04.WaveLoads", spec := "waveLoads", unfollowed := true, recurses := true, apart := false }
def WaveLoadsSaid : Prop := waveLoadsRow.holds Try.pinned (OpenSpec.ofChange waveLoadsSpec)

/-- ITS FALSE NEIGHBOUR: 'it returns false'. Refute it at one input. -/
def waveLoadsWrong : ChangeSpec := { name := "waveLoads", fn := fun _ => fun
  | [d1, d2, d3] => { results := [.lit (.bool false)], args := [d1, d2, d3] }
  | _ => none }
def WaveLoadsWrongFalsely : Prop := waveLoadsRow.holds Try.pinned (OpenSpec.ofChange waveLoadsWrong)

/-- 'topiarylaw04.WaveBack': WHATEVER THE INPUT: true; the input reads as it did. -/
def waveBackSpec : ChangeSpec := { name := "waveBack", fn := fun _ => fun
  | [d1, d2] => { results := [.lit (.bool true)], args := [d1, d2] }
  | _ => none }
def waveBackRow : OpenClaim := { program := "ytaenpfgljlahkaa", sum := "0704e4bf90e4119218f2fbf26f34de0e3ab7e98f4057315228acf90df5dc95ab", func := "topiary/topiarylaw04.WaveBack", spec := "waveBack", unfollowed := true, recurses := true, apart := false }
def WaveBackSaid : Prop := waveBackRow.holds Try.pinned (OpenSpec.ofChange waveBackSpec)

/-- ITS FALSE NEIGHBOUR: 'it returns false'. Refute it at one input. -/
def waveBackWrong : ChangeSpec := { name := "waveBack", fn := fun _ => fun
  | [d1, d2] => { results := [.lit (.bool false)], args := [d1, d2] }
  | _ => none }
def WaveBackWrongFalsely : Prop := waveBackRow.holds Try.pinned (OpenSpec.ofChange waveBackWrong)

/-- 'topiarylaw05.ShapedFree': WHATEVER THE INPUT: true; the input reads as it did. -/
def shapedFreeSpec : ChangeSpec := { name := "shapedFree", fn := fun _ => fun
  | [d] => { results := [.lit (.bool true)], args := [d] }
  | _ => none }
def shapedFreeRow : OpenClaim := { program := "ytaenpfgljlahkaa", sum := "0704e4bf90e4119218f2fbf26f34de0e3ab7e98f4057315228acf90df5dc95ab", func := "topiary/topiarylaw05.ShapedFree", spec := "shapedFree", inPlace := ["slices.overlaps[topiary/shaped.heap]", "internal/abi.NoEscape", "internal/bytealg.MakeNoZero"], unfollowed := true, recurses := true, apart := false }
def ShapedFreeSaid : Prop := shapedFreeRow.holds Try.pinned (OpenSpec.ofChange shapedFreeSpec)

/-- ITS FALSE NEIGHBOUR: 'it returns false'. Refute it at one input. -/
def shapedFreeWrong : ChangeSpec := { name := "shapedFree", fn := fun _ => fun
  | [d] => { results := [.lit (.bool false)], args := [d] }
  | _ => none }
def ShapedFreeWrongFalsely : Prop := shapedFreeRow.holds Try.pinned (OpenSpec.ofChange shapedFreeWrong)

/-- 'topiarylaw05.ShapedWhole': WHATEVER THE INPUT: true; the input reads as it did. -/
def shapedWholeSpec : ChangeSpec := { name := "shapedWhole", fn := fun _ => fun
  | [d] => { results := [.lit (.bool true)], args := [d] }
  | _ => none }
def shapedWholeRow : OpenClaim := { program := "ytaenpfgljlahkaa", sum := "0704e4bf90e4119218f2fbf26f34de0e3ab7e98f4057315228acf90df5dc95ab", func := "topiary/topiarylaw05.ShapedWhole", spec := "shapedWhole", inPlace := ["slices.overlaps[topiary/shaped.heap]", "internal/abi.NoEscape", "internal/bytealg.MakeNoZero"], unfollowed := true, recurses := true, apart := false }
def ShapedWholeSaid : Prop := shapedWholeRow.holds Try.pinned (OpenSpec.ofChange shapedWholeSpec)

/-- ITS FALSE NEIGHBOUR: 'it returns false'. Refute it at one input. -/
def shapedWholeWrong : ChangeSpec := { name := "shapedWhole", fn := fun _ => fun
  | [d] => { results := [.lit (.bool false)], args := [d] }
  | _ => none }
def ShapedWholeWrongFalsely : Prop := shapedWholeRow.holds Try.pinned (OpenSpec.ofChange shapedWholeWrong)

/-- 'topiarylaw05.ShapedOrder': WHATEVER THE INPUT: true; the input reads as it did. -/
def shapedOrderSpec : ChangeSpec := { name := "shapedOrder", fn := fun _ => fun
  | [d1, d2] => { results := [.lit (.bool true)], args := [d1, d2] }
  | _ => none }
def shapedOrderRow : OpenClaim := { program := "ytaenpfgljlahkaa", sum := "0704e4bf90e4119218f2fbf26f34de0e3ab7e98f4057315228acf90df5dc95ab", func := "topiary/topiarylaw05.ShapedOrder", spec := "shapedOrder", inPlace := ["slices.overlaps[topiary/shaped.heap]", "internal/abi.NoEscape", "internal/bytealg.MakeNoZero"], unfollowed := true, recurses := true, apart := false }
def ShapedOrderSaid : Prop := shapedOrderRow.holds Try.pinned (OpenSpec.ofChange shapedOrderSpec)

/-- ITS FALSE NEIGHBOUR: 'it returns false'. Refute it at one input. -/
def shapedOrderWrong : ChangeSpec := { name := "shapedOrder", fn := fun _ => fun
  | [d1, d2] => { results := [.lit (.bool false)], args := [d1, d2] }
  | _ => none }
def ShapedOrderWrongFalsely : Prop := shapedOrderRow.holds Try.pinned (OpenSpec.ofChange shapedOrderWrong)

/- THE SECOND FORM. 'bulk': how many values and letters a reading holds, each counted each time it is reached (what is shared counts as often as it is met; a slice's spare places count too). A statement '..UptoSaid' is the law's where the arguments, and the package variables that the reading takes, are together of bulk at most 1048576: NARROWER than '..Said'. Prove '..Said' where nothing that the law and all that it calls make is longer than what came in: it says more and counts as full. Else prove '..UptoSaid'. A law counts once. -/
mutual
def uptoBulk {H : Type} : DataW H → Nat
  | .lit (.string bytes) => bytes.length + 1
  | .lit _ => 1
  | .nil => 1
  | .ptr d => uptoBulk d + 1
  | .slice elems spare => uptoBulkAll elems + uptoBulkAll spare + 1
  | .agg parts => uptoBulkAll parts + 1
  | .iface _ d => uptoBulk d + 1
  | .map entries => uptoBulkEntries entries + 1
  | .held _ => 1
def uptoBulkAll {H : Type} : List (DataW H) → Nat
  | [] => 0
  | d :: r => uptoBulk d + uptoBulkAll r
def uptoBulkEntries {H : Type} : List (Lit × DataW H) → Nat
  | [] => 0
  | x :: r => uptoBulkEntry x + uptoBulkEntries r
def uptoBulkEntry {H : Type} : Lit × DataW H → Nat
  | (.string bytes, d) => bytes.length + uptoBulk d + 1
  | (_, d) => uptoBulk d + 1
 end
def uptoSmall : (H : Type) → List (DataW H) → Bool := fun _ ds => decide (uptoBulkAll ds ≤ 1048576)
def OpenSpec.upto (s : _root_.Go.ChangeSpec) : _root_.Go.OpenSpec := { _root_.Go.OpenSpec.ofChange s with cond := some uptoSmall }

/-- 'topiarylaw01.BitsSame', WHERE WHAT IT READS IS OF BULK AT MOST 1048576: true; the input reads as it did. -/
def bitsSameUptoRow : OpenClaim := { program := "ytaenpfgljlahkaa", sum := "0704e4bf90e4119218f2fbf26f34de0e3ab7e98f4057315228acf90df5dc95ab", func := "topiary/topiarylaw01.BitsSame", spec := "bitsSame", unfollowed := true, recurses := true, apart := false, narrowed := true }
def BitsSameUptoSaid : Prop := bitsSameUptoRow.holds Try.pinned (OpenSpec.upto bitsSameSpec)

/-- 'topiarylaw01.BitsJoins', WHERE WHAT IT READS IS OF BULK AT MOST 1048576: true; the input reads as it did. -/
def bitsJoinsUptoRow : OpenClaim := { program := "ytaenpfgljlahkaa", sum := "0704e4bf90e4119218f2fbf26f34de0e3ab7e98f4057315228acf90df5dc95ab", func := "topiary/topiarylaw01.BitsJoins", spec := "bitsJoins", unfollowed := true, recurses := true, apart := false, narrowed := true }
def BitsJoinsUptoSaid : Prop := bitsJoinsUptoRow.holds Try.pinned (OpenSpec.upto bitsJoinsSpec)

/-- 'topiarylaw02.IntsFind', WHERE WHAT IT READS IS OF BULK AT MOST 1048576: true; the input reads as it did. -/
def intsFindUptoRow : OpenClaim := { program := "ytaenpfgljlahkaa", sum := "0704e4bf90e4119218f2fbf26f34de0e3ab7e98f4057315228acf90df5dc95ab", func := "topiary/topiarylaw02.IntsFind", spec := "intsFind", unfollowed := true, recurses := true, apart := false, narrowed := true }
def IntsFindUptoSaid : Prop := intsFindUptoRow.holds Try.pinned (OpenSpec.upto intsFindSpec)

/-- 'topiarylaw02.IntsWide', WHERE WHAT IT READS IS OF BULK AT MOST 1048576: true; the input reads as it did. -/
def intsWideUptoRow : OpenClaim := { program := "ytaenpfgljlahkaa", sum := "0704e4bf90e4119218f2fbf26f34de0e3ab7e98f4057315228acf90df5dc95ab", func := "topiary/topiarylaw02.IntsWide", spec := "intsWide", unfollowed := true, recurses := true, apart := false, narrowed := true }
def IntsWideUptoSaid : Prop := intsWideUptoRow.holds Try.pinned (OpenSpec.upto intsWideSpec)

/-- 'topiarylaw01.BitsCount', WHERE WHAT IT READS IS OF BULK AT MOST 1048576: true; the input reads as it did. -/
def bitsCountUptoRow : OpenClaim := { program := "ytaenpfgljlahkaa", sum := "0704e4bf90e4119218f2fbf26f34de0e3ab7e98f4057315228acf90df5dc95ab", func := "topiary/topiarylaw01.BitsCount", spec := "bitsCount", unfollowed := true, recurses := true, apart := false, narrowed := true }
def BitsCountUptoSaid : Prop := bitsCountUptoRow.holds Try.pinned (OpenSpec.upto bitsCountSpec)

/-- 'topiarylaw02.IntsRows', WHERE WHAT IT READS IS OF BULK AT MOST 1048576: true; the input reads as it did. -/
def intsRowsUptoRow : OpenClaim := { program := "ytaenpfgljlahkaa", sum := "0704e4bf90e4119218f2fbf26f34de0e3ab7e98f4057315228acf90df5dc95ab", func := "topiary/topiarylaw02.IntsRows", spec := "intsRows", unfollowed := true, recurses := true, apart := false, narrowed := true }
def IntsRowsUptoSaid : Prop := intsRowsUptoRow.holds Try.pinned (OpenSpec.upto intsRowsSpec)

/-- 'topiarylaw01.BitsBuilds', WHERE WHAT IT READS IS OF BULK AT MOST 1048576: true; the input reads as it did. -/
def bitsBuildsUptoRow : OpenClaim := { program := "ytaenpfgljlahkaa", sum := "0704e4bf90e4119218f2fbf26f34de0e3ab7e98f4057315228acf90df5dc95ab", func := "topiary/topiarylaw01.BitsBuilds", spec := "bitsBuilds", unfollowed := true, recurses := true, apart := false, narrowed := true }
def BitsBuildsUptoSaid : Prop := bitsBuildsUptoRow.holds Try.pinned (OpenSpec.upto bitsBuildsSpec)

/-- 'topiarylaw01.BitsBack', WHERE WHAT IT READS IS OF BULK AT MOST 1048576: true; the input reads as it did. -/
def bitsBackUptoRow : OpenClaim := { program := "ytaenpfgljlahkaa", sum := "0704e4bf90e4119218f2fbf26f34de0e3ab7e98f4057315228acf90df5dc95ab", func := "topiary/topiarylaw01.BitsBack", spec := "bitsBack", unfollowed := true, recurses := true, apart := false, narrowed := true }
def BitsBackUptoSaid : Prop := bitsBackUptoRow.holds Try.pinned (OpenSpec.upto bitsBackSpec)

/-- 'topiarylaw02.IntsSame', WHERE WHAT IT READS IS OF BULK AT MOST 1048576: true; the input reads as it did. -/
def intsSameUptoRow : OpenClaim := { program := "ytaenpfgljlahkaa", sum := "0704e4bf90e4119218f2fbf26f34de0e3ab7e98f4057315228acf90df5dc95ab", func := "topiary/topiarylaw02.IntsSame", spec := "intsSame", unfollowed := true, recurses := true, apart := false, narrowed := true }
def IntsSameUptoSaid : Prop := intsSameUptoRow.holds Try.pinned (OpenSpec.upto intsSameSpec)

/-- 'topiarylaw01.BitsRows', WHERE WHAT IT READS IS OF BULK AT MOST 1048576: true; the input reads as it did. -/
def bitsRowsUptoRow : OpenClaim := { program := "ytaenpfgljlahkaa", sum := "0704e4bf90e4119218f2fbf26f34de0e3ab7e98f4057315228acf90df5dc95ab", func := "topiary/topiarylaw01.BitsRows", spec := "bitsRows", unfollowed := true, recurses := true, apart := false, narrowed := true }
def BitsRowsUptoSaid : Prop := bitsRowsUptoRow.holds Try.pinned (OpenSpec.upto bitsRowsSpec)

/-- 'topiarylaw01.BitsNil', WHERE WHAT IT READS IS OF BULK AT MOST 1048576: true; the input reads as it did. -/
def bitsNilUptoRow : OpenClaim := { program := "ytaenpfgljlahkaa", sum := "0704e4bf90e4119218f2fbf26f34de0e3ab7e98f4057315228acf90df5dc95ab", func := "topiary/topiarylaw01.BitsNil", spec := "bitsNil", unfollowed := true, recurses := true, apart := false, narrowed := true }
def BitsNilUptoSaid : Prop := bitsNilUptoRow.holds Try.pinned (OpenSpec.upto bitsNilSpec)

/-- 'topiarylaw01.BitsReads', WHERE WHAT IT READS IS OF BULK AT MOST 1048576: true; the input reads as it did. -/
def bitsReadsUptoRow : OpenClaim := { program := "ytaenpfgljlahkaa", sum := "0704e4bf90e4119218f2fbf26f34de0e3ab7e98f4057315228acf90df5dc95ab", func := "topiary/topiarylaw01.BitsReads", spec := "bitsReads", unfollowed := true, recurses := true, apart := false, narrowed := true }
def BitsReadsUptoSaid : Prop := bitsReadsUptoRow.holds Try.pinned (OpenSpec.upto bitsReadsSpec)

/-- 'topiarylaw02.IntsReads', WHERE WHAT IT READS IS OF BULK AT MOST 1048576: true; the input reads as it did. -/
def intsReadsUptoRow : OpenClaim := { program := "ytaenpfgljlahkaa", sum := "0704e4bf90e4119218f2fbf26f34de0e3ab7e98f4057315228acf90df5dc95ab", func := "topiary/topiarylaw02.IntsReads", spec := "intsReads", unfollowed := true, recurses := true, apart := false, narrowed := true }
def IntsReadsUptoSaid : Prop := intsReadsUptoRow.holds Try.pinned (OpenSpec.upto intsReadsSpec)

/-- 'topiarylaw02.IntsTight', WHERE WHAT IT READS IS OF BULK AT MOST 1048576: true; the input reads as it did. -/
def intsTightUptoRow : OpenClaim := { program := "ytaenpfgljlahkaa", sum := "0704e4bf90e4119218f2fbf26f34de0e3ab7e98f4057315228acf90df5dc95ab", func := "topiary/topiarylaw02.IntsTight", spec := "intsTight", unfollowed := true, recurses := true, apart := false, narrowed := true }
def IntsTightUptoSaid : Prop := intsTightUptoRow.holds Try.pinned (OpenSpec.upto intsTightSpec)

/-- 'topiarylaw03.RankFinds', WHERE WHAT IT READS IS OF BULK AT MOST 1048576: true; the input reads as it did. -/
def rankFindsUptoRow : OpenClaim := { program := "ytaenpfgljlahkaa", sum := "0704e4bf90e4119218f2fbf26f34de0e3ab7e98f4057315228acf90df5dc95ab", func := "topiary/topiarylaw03.RankFinds", spec := "rankFinds", unfollowed := true, recurses := true, apart := false, narrowed := true }
def RankFindsUptoSaid : Prop := rankFindsUptoRow.holds Try.pinned (OpenSpec.upto rankFindsSpec)

/-- 'topiarylaw03.RankTurns', WHERE WHAT IT READS IS OF BULK AT MOST 1048576: true; the input reads as it did. -/
def rankTurnsUptoRow : OpenClaim := { program := "ytaenpfgljlahkaa", sum := "0704e4bf90e4119218f2fbf26f34de0e3ab7e98f4057315228acf90df5dc95ab", func := "topiary/topiarylaw03.RankTurns", spec := "rankTurns", unfollowed := true, recurses := true, apart := false, narrowed := true }
def RankTurnsUptoSaid : Prop := rankTurnsUptoRow.holds Try.pinned (OpenSpec.upto rankTurnsSpec)

/-- 'topiarylaw03.RankTurned', WHERE WHAT IT READS IS OF BULK AT MOST 1048576: true; the input reads as it did. -/
def rankTurnedUptoRow : OpenClaim := { program := "ytaenpfgljlahkaa", sum := "0704e4bf90e4119218f2fbf26f34de0e3ab7e98f4057315228acf90df5dc95ab", func := "topiary/topiarylaw03.RankTurned", spec := "rankTurned", unfollowed := true, recurses := true, apart := false, narrowed := true }
def RankTurnedUptoSaid : Prop := rankTurnedUptoRow.holds Try.pinned (OpenSpec.upto rankTurnedSpec)

/-- 'topiarylaw03.RankEdges', WHERE WHAT IT READS IS OF BULK AT MOST 1048576: true; the input reads as it did. -/
def rankEdgesUptoRow : OpenClaim := { program := "ytaenpfgljlahkaa", sum := "0704e4bf90e4119218f2fbf26f34de0e3ab7e98f4057315228acf90df5dc95ab", func := "topiary/topiarylaw03.RankEdges", spec := "rankEdges", unfollowed := true, recurses := true, apart := false, narrowed := true }
def RankEdgesUptoSaid : Prop := rankEdgesUptoRow.holds Try.pinned (OpenSpec.upto rankEdgesSpec)

/-- 'topiarylaw03.RankZero', WHERE WHAT IT READS IS OF BULK AT MOST 1048576: true; the input reads as it did. -/
def rankZeroUptoRow : OpenClaim := { program := "ytaenpfgljlahkaa", sum := "0704e4bf90e4119218f2fbf26f34de0e3ab7e98f4057315228acf90df5dc95ab", func := "topiary/topiarylaw03.RankZero", spec := "rankZero", unfollowed := true, recurses := true, apart := false, narrowed := true }
def RankZeroUptoSaid : Prop := rankZeroUptoRow.holds Try.pinned (OpenSpec.upto rankZeroSpec)

/-- 'topiarylaw03.RankCounts', WHERE WHAT IT READS IS OF BULK AT MOST 1048576: true; the input reads as it did. -/
def rankCountsUptoRow : OpenClaim := { program := "ytaenpfgljlahkaa", sum := "0704e4bf90e4119218f2fbf26f34de0e3ab7e98f4057315228acf90df5dc95ab", func := "topiary/topiarylaw03.RankCounts", spec := "rankCounts", unfollowed := true, recurses := true, apart := false, narrowed := true }
def RankCountsUptoSaid : Prop := rankCountsUptoRow.holds Try.pinned (OpenSpec.upto rankCountsSpec)

/-- 'topiarylaw04.WaveTurns', WHERE WHAT IT READS IS OF BULK AT MOST 1048576: true; the input reads as it did. -/
def waveTurnsUptoRow : OpenClaim := { program := "ytaenpfgljlahkaa", sum := "0704e4bf90e4119218f2fbf26f34de0e3ab7e98f4057315228acf90df5dc95ab", func := "topiary/topiarylaw04.WaveTurns", spec := "waveTurns", unfollowed := true, recurses := true, apart := false, narrowed := true }
def WaveTurnsUptoSaid : Prop := waveTurnsUptoRow.holds Try.pinned (OpenSpec.upto waveTurnsSpec)

/-- 'topiarylaw04.WaveParts', WHERE WHAT IT READS IS OF BULK AT MOST 1048576: true; the input reads as it did. -/
def wavePartsUptoRow : OpenClaim := { program := "ytaenpfgljlahkaa", sum := "0704e4bf90e4119218f2fbf26f34de0e3ab7e98f4057315228acf90df5dc95ab", func := "topiary/topiarylaw04.WaveParts", spec := "waveParts", unfollowed := true, recurses := true, apart := false, narrowed := true }
def WavePartsUptoSaid : Prop := wavePartsUptoRow.holds Try.pinned (OpenSpec.upto wavePartsSpec)

/-- 'topiarylaw04.WaveTells', WHERE WHAT IT READS IS OF BULK AT MOST 1048576: true; the input reads as it did. -/
def waveTellsUptoRow : OpenClaim := { program := "ytaenpfgljlahkaa", sum := "0704e4bf90e4119218f2fbf26f34de0e3ab7e98f4057315228acf90df5dc95ab", func := "topiary/topiarylaw04.WaveTells", spec := "waveTells", unfollowed := true, recurses := true, apart := false, narrowed := true }
def WaveTellsUptoSaid : Prop := waveTellsUptoRow.holds Try.pinned (OpenSpec.upto waveTellsSpec)

/-- 'topiarylaw04.WaveZero', WHERE WHAT IT READS IS OF BULK AT MOST 1048576: true; the input reads as it did. -/
def waveZeroUptoRow : OpenClaim := { program := "ytaenpfgljlahkaa", sum := "0704e4bf90e4119218f2fbf26f34de0e3ab7e98f4057315228acf90df5dc95ab", func := "topiary/topiarylaw04.WaveZero", spec := "waveZero", unfollowed := true, recurses := true, apart := false, narrowed := true }
def WaveZeroUptoSaid : Prop := waveZeroUptoRow.holds Try.pinned (OpenSpec.upto waveZeroSpec)

/-- 'topiarylaw04.WaveMakes', WHERE WHAT IT READS IS OF BULK AT MOST 1048576: true; the input reads as it did. -/
def waveMakesUptoRow : OpenClaim := { program := "ytaenpfgljlahkaa", sum := "0704e4bf90e4119218f2fbf26f34de0e3ab7e98f4057315228acf90df5dc95ab", func := "topiary/topiarylaw04.WaveMakes", spec := "waveMakes", unfollowed := true, recurses := true, apart := false, narrowed := true }
def WaveMakesUptoSaid : Prop := waveMakesUptoRow.holds Try.pinned (OpenSpec.upto waveMakesSpec)

/-- 'topiarylaw04.WaveLoads', WHERE WHAT IT READS IS OF BULK AT MOST 1048576: true; the input reads as it did. -/
def waveLoadsUptoRow : OpenClaim := { program := "ytaenpfgljlahkaa", sum := "0704e4bf90e4119218f2fbf26f34de0e3ab7e98f4057315228acf90df5dc95ab", func := "topiary/topiarylaw04.WaveLoads", spec := "waveLoads", unfollowed := true, recurses := true, apart := false, narrowed := true }
def WaveLoadsUptoSaid : Prop := waveLoadsUptoRow.holds Try.pinned (OpenSpec.upto waveLoadsSpec)

/-- 'topiarylaw04.WaveBack', WHERE WHAT IT READS IS OF BULK AT MOST 1048576: true; the input reads as it did. -/
def waveBackUptoRow : OpenClaim := { program := "ytaenpfgljlahkaa", sum := "0704e4bf90e4119218f2fbf26f34de0e3ab7e98f4057315228acf90df5dc95ab", func := "topiary/topiarylaw04.WaveBack", spec := "waveBack", unfollowed := true, recurses := true, apart := false, narrowed := true }
def WaveBackUptoSaid : Prop := waveBackUptoRow.holds Try.pinned (OpenSpec.upto waveBackSpec)

/-- 'topiarylaw05.ShapedFree', WHERE WHAT IT READS IS OF BULK AT MOST 1048576: true; the input reads as it did. -/
def shapedFreeUptoRow : OpenClaim := { program := "ytaenpfgljlahkaa", sum := "0704e4bf90e4119218f2fbf26f34de0e3ab7e98f4057315228acf90df5dc95ab", func := "topiary/topiarylaw05.ShapedFree", spec := "shapedFree", inPlace := ["slices.overlaps[topiary/shaped.heap]", "internal/abi.NoEscape", "internal/bytealg.MakeNoZero"], unfollowed := true, recurses := true, apart := false, narrowed := true }
def ShapedFreeUptoSaid : Prop := shapedFreeUptoRow.holds Try.pinned (OpenSpec.upto shapedFreeSpec)

/-- 'topiarylaw05.ShapedWhole', WHERE WHAT IT READS IS OF BULK AT MOST 1048576: true; the input reads as it did. -/
def shapedWholeUptoRow : OpenClaim := { program := "ytaenpfgljlahkaa", sum := "0704e4bf90e4119218f2fbf26f34de0e3ab7e98f4057315228acf90df5dc95ab", func := "topiary/topiarylaw05.ShapedWhole", spec := "shapedWhole", inPlace := ["slices.overlaps[topiary/shaped.heap]", "internal/abi.NoEscape", "internal/bytealg.MakeNoZero"], unfollowed := true, recurses := true, apart := false, narrowed := true }
def ShapedWholeUptoSaid : Prop := shapedWholeUptoRow.holds Try.pinned (OpenSpec.upto shapedWholeSpec)

/-- 'topiarylaw05.ShapedOrder', WHERE WHAT IT READS IS OF BULK AT MOST 1048576: true; the input reads as it did. -/
def shapedOrderUptoRow : OpenClaim := { program := "ytaenpfgljlahkaa", sum := "0704e4bf90e4119218f2fbf26f34de0e3ab7e98f4057315228acf90df5dc95ab", func := "topiary/topiarylaw05.ShapedOrder", spec := "shapedOrder", inPlace := ["slices.overlaps[topiary/shaped.heap]", "internal/abi.NoEscape", "internal/bytealg.MakeNoZero"], unfollowed := true, recurses := true, apart := false, narrowed := true }
def ShapedOrderUptoSaid : Prop := shapedOrderUptoRow.holds Try.pinned (OpenSpec.upto shapedOrderSpec)

end Rows
end Go.Proofs.Ytaenpfgljlahkaa
