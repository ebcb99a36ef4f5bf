
/- Chapter 1: rows of bits. No condition but lengths that fit. -/
import Derived.Test.YtnijpeeehnnipaaT
import Derived.Test.YtnijpeeehnnipaaAC
import Derived.Lib.BitFns
import Derived.KernelRfl
set_option linter.unusedVariables false
set_option linter.unusedSimpArgs false
set_option maxRecDepth 20000
namespace Go.Proofs.Ytnijpeeehnnipaa.AM
open Go Go.RowKit

def bitsV (l : List Bool) : IV := .agg [.int .i64 l.length, .sl 1 (ws l)]
def blsV (l : List Bool) : IV := .sl 1 (l.map .bool)
@[go_sem] theorem fold_bitsV (l : List Bool) {n : Int} (h : n = (l.length : Int)) : IV.agg [.int .i64 n, .sl 1 (ws l)] = bitsV l := by rw [h]; rfl
@[go_sem] theorem cells_bitsV (l : List Bool) : AV.cells (.iv (bitsV l)) = some [.iv (.int .i64 l.length), .iv (.sl 1 (ws l))] := rfl
@[go_sem] theorem icells_bitsV (l : List Bool) : IV.cells (bitsV l) = [.int .i64 l.length, .sl 1 (ws l)] := rfl
@[go_sem] theorem fits_bitsV (l : List Bool) : IV.fits 2 (bitsV l) = true := rfl
@[go_sem ↓] theorem toIVF_bitsV (M : List MO) (l : List Bool) : toIVF M (.iv (bitsV l)) = some (bitsV l, M) := rfl
@[go_sem] theorem fieldV_bitsV (ag : Option Nat) (off : Nat) (M : List MO) (l : List Bool) : fieldV ag off (.iv (bitsV l)) M = (elemPart ag (bitsV l) off).map fun v => (.p, .iv v, M) := rfl
@[go_sem] theorem wsAppGet (l : List Bool) (x : IV) {i : Nat} (h : i = (l.length + 63) / 64) : (ws l ++ [x])[i]? = some x := by
  rw [List.getElem?_append_right (by rw [ws_len]; omega), ws_len, h]; simp

@[go_sem] theorem wsTake (l : List Bool) {n : Nat} (h : (l.length + 63) / 64 ≤ n) : (ws l).take n = ws l := List.take_of_length_le (by rw [ws_len]; exact h)
@[go_sem] theorem replDrop (x : IV) {n k : Nat} (h : n ≤ k) : (List.replicate n x).drop k = [] := List.drop_of_length_le (by simpa using h)
@[go_sem] theorem getPB {α : Type} (p q : List α) (b : α) (f : α → IV) : ((p ++ b :: q).map f)[p.length]? = some (f b) := by simp
@[go_sem] theorem getDB {α : Type} (p q : List α) (b d : α) : (p ++ b :: q).getD p.length d = b := by simp [List.getD]
attribute [go_sem] Nat.min_self Nat.le_refl

end Go.Proofs.Ytnijpeeehnnipaa.AM
set_option linter.unusedVariables false
set_option linter.unusedSimpArgs false
set_option maxRecDepth 20000
namespace Go.Proofs.Ytnijpeeehnnipaa.AM
open Go Go.RowKit

end Go.Proofs.Ytnijpeeehnnipaa.AM
set_option linter.unusedVariables false
set_option linter.unusedSimpArgs false
set_option maxRecDepth 20000
namespace Go.Proofs.Ytnijpeeehnnipaa.AM
open Go Go.RowKit

theorem tab_bit {L : List UInt8} (hL : (List.range 256).all (fun j => (L.getD j 0).toNat == Lib.bitLen j) = true) (j : Nat) (hj : j < 256) : (L.getD j 0).toNat = Lib.bitLen j := by
  have := List.all_eq_true.1 hL j (List.mem_range.2 hj)
  simpa using this
theorem shr32 (a : Nat) : (a : Int).fdiv (2 ^ min 32 64) = ((a / 4294967296 : Nat) : Int) := shrK a 32 (by decide)
theorem shr16 (a : Nat) : (a : Int).fdiv (2 ^ min 16 64) = ((a / 65536 : Nat) : Int) := shrK a 16 (by decide)
theorem shr8 (a : Nat) : (a : Int).fdiv (2 ^ min 8 64) = ((a / 256 : Nat) : Int) := shrK a 8 (by decide)
theorem len_fin (c : Int) (k b : Nat) (hc : c = (k : Int)) (hb : b ≤ 8) (hk : k ≤ 56) : IntKind.i64.wrap (c + IntKind.i64.wrap (b : Int)) = ((k + b : Nat) : Int) := by
  rw [show IntKind.i64.wrap (b : Int) = (b : Int) from wrapS ⟨by omega, by omega⟩, wrapS ⟨by omega, by omega⟩]; omega
theorem lt_size (L : List UInt8) (n : Nat) (h : n < 256) (hs : L.length = 256) : (n : Int) < ((⟨L.toArray⟩ : ByteArray).size : Int) := by
  show (n : Int) < ((L.toArray.size : Nat) : Int)
  rw [List.size_toArray, hs]; omega
theorem len_last {L : List UInt8} {c : Int} (k n : Nat) (x : Nat) (hL : (List.range 256).all (fun j => (L.getD j 0).toNat == Lib.bitLen j) = true) (hn : n < 256) (hc : c = (k : Int)) (hk : k ≤ 56) (hx : Lib.bitLen x = k + Lib.bitLen n) :
    some (IV.int .i64 (IntKind.i64.wrap (c + IntKind.i64.wrap ((L.getD n 0).toNat : Int)))) = some (IV.int .i64 (Lib.bitLen x : Int)) := by
  rw [tab_bit hL n hn, len_fin c k _ hc (Lib.bitLen_le n 8 (by decide) hn) hk, hx]
theorem len_last0 {L : List UInt8} (n : Nat) (x : Nat) (hL : (List.range 256).all (fun j => (L.getD j 0).toNat == Lib.bitLen j) = true) (hn : n < 256) (hx : Lib.bitLen x = Lib.bitLen n) :
    some (IV.int .i64 (IntKind.i64.wrap (IntKind.i64.wrap ((L.getD n 0).toNat : Int)))) = some (IV.int .i64 (Lib.bitLen x : Int)) := by
  have := Lib.bitLen_le n 8 (by decide) hn
  rw [tab_bit hL n hn, wrapS (x := (Lib.bitLen n : Int)) ⟨by omega, by omega⟩, wrapS ⟨by omega, by omega⟩, hx]

theorem Len64_spec (x : Nat) (hx : x < 18446744073709551616) : PCalls Try.prog 91 [.int .u64 (x : Int)] (.int .i64 (Lib.bitLen x : Int)) := by
  refine PCalls.of_aw Try.func91 rfl (by unfold Callable; kernel_rfl) (by kernel_rfl) (by simp [Try.ntmps91]) ?_; rw [Try.ntmps91, Try.results91]; (simp (disch := first | exact dq | fail) only [go_sem])
  (repeat' first
  | ((with_reducible first | refine Nx.go ?_ | refine And.intro ?_ ?_ | fail) <;> try (simp (disch := first | exact dq | fail) only [go_sem, shr32, shr16, shr8]))
  | ((with_reducible refine Sp.go ?_ ?_) <;> intro h <;> (try (simp (disch := first | exact dq | fail) only [go_sem] at h)) <;> try (simp (disch := first | exact dq | fail) only [go_sem, h, shr32, shr16, shr8])) | fail)
  all_goals (try omega)
  all_goals (try (exact lt_size _ _ (by omega) (by kernel_rfl)))
  · exact len_last 56 _ x (by kernel_rfl) (by omega) rfl (by omega) (by rw [Lib.bitLen_shift32 x (by omega) hx, Lib.bitLen_shift16 _ (by omega) (by omega), Lib.bitLen_shift8 _ (by omega) (by omega)]; omega)
  · exact len_last 48 _ x (by kernel_rfl) (by omega) rfl (by omega) (by rw [Lib.bitLen_shift32 x (by omega) hx, Lib.bitLen_shift16 _ (by omega) (by omega)]; omega)
  · exact len_last 40 _ x (by kernel_rfl) (by omega) rfl (by omega) (by rw [Lib.bitLen_shift32 x (by omega) hx, Lib.bitLen_shift8 _ (by omega) (by omega)]; omega)
  · exact len_last 32 _ x (by kernel_rfl) (by omega) rfl (by omega) (by rw [Lib.bitLen_shift32 x (by omega) hx])
  · exact len_last 24 _ x (by kernel_rfl) (by omega) rfl (by omega) (by rw [Lib.bitLen_shift16 x (by omega) (by omega), Lib.bitLen_shift8 _ (by omega) (by omega)]; omega)
  · exact len_last 16 _ x (by kernel_rfl) (by omega) rfl (by omega) (by rw [Lib.bitLen_shift16 x (by omega) (by omega)])
  · exact len_last 8 _ x (by kernel_rfl) (by omega) rfl (by omega) (by rw [Lib.bitLen_shift8 x (by omega) (by omega)])
  · exact len_last0 _ x (by kernel_rfl) (by omega) rfl
end Go.Proofs.Ytnijpeeehnnipaa.AM
set_option linter.unusedVariables false
set_option linter.unusedSimpArgs false
set_option maxRecDepth 20000
namespace Go.Proofs.Ytnijpeeehnnipaa.AM
open Go Go.RowKit

attribute [go_sem] bitsOf_len isU8
theorem toNat_one (b : Bool) : decide ((b.toNat : Int) = 1) = b := by cases b <;> rfl
attribute [go_sem] toNat_one

end Go.Proofs.Ytnijpeeehnnipaa.AM
set_option linter.unusedVariables false
set_option linter.unusedSimpArgs false
set_option maxRecDepth 20000
namespace Go.Proofs.Ytnijpeeehnnipaa.AM
open Go Go.RowKit

end Go.Proofs.Ytnijpeeehnnipaa.AM
set_option linter.unusedVariables false
set_option linter.unusedSimpArgs false
set_option maxRecDepth 20000
namespace Go.Proofs.Ytnijpeeehnnipaa.AM
open Go Go.RowKit

attribute [go_sem] blsV
end Go.Proofs.Ytnijpeeehnnipaa.AM
set_option linter.unusedVariables false
set_option linter.unusedSimpArgs false
set_option maxRecDepth 20000
namespace Go.Proofs.Ytnijpeeehnnipaa.AM
open Go Go.RowKit

@[go_sem] theorem takeMapAll {α : Type} (l : List α) (f : α → IV) {n : Nat} (h : l.length ≤ n) : (l.map f).take n = l.map f := List.take_of_length_le (by simpa using h)

end Go.Proofs.Ytnijpeeehnnipaa.AM
set_option linter.unusedVariables false
set_option linter.unusedSimpArgs false
set_option maxRecDepth 20000
namespace Go.Proofs.Ytnijpeeehnnipaa.AM
open Go Go.RowKit

end Go.Proofs.Ytnijpeeehnnipaa.AM
set_option linter.unusedVariables false
set_option linter.unusedSimpArgs false
set_option maxRecDepth 20000
namespace Go.Proofs.Ytnijpeeehnnipaa.AM
open Go Go.RowKit

end Go.Proofs.Ytnijpeeehnnipaa.AM
set_option linter.unusedVariables false
set_option linter.unusedSimpArgs false
set_option maxRecDepth 20000
namespace Go.Proofs.Ytnijpeeehnnipaa.AM
open Go Go.RowKit

end Go.Proofs.Ytnijpeeehnnipaa.AM
