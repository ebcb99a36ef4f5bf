
/- Rows of bits: numbers put and read, bytes. No condition but lengths that fit. -/
import Derived.Test.YtebegdnebjjnmaaF2
import Derived.Lib.BitFns
set_option linter.unusedVariables false
set_option linter.unusedSimpArgs false
set_option maxRecDepth 20000
namespace Go.Proofs.Ytebegdnebjjnmaa.AM
open Go Go.RowKit

theorem tab_bit {L : List UInt8} (hL : (List.range 256).all (fun j => (L.getD j 0).toNat == Lib.bitLen j) = true) (j : Nat) (hj : j < 256) : (L.getD j 0).toNat = Lib.bitLen j := by
  have := List.all_eq_true.1 hL j (List.mem_range.2 hj)
  simpa using this
theorem shr32 (a : Nat) : (a : Int).fdiv (2 ^ min 32 64) = ((a / 4294967296 : Nat) : Int) := shrK a 32 (by decide)
theorem shr16 (a : Nat) : (a : Int).fdiv (2 ^ min 16 64) = ((a / 65536 : Nat) : Int) := shrK a 16 (by decide)
theorem shr8 (a : Nat) : (a : Int).fdiv (2 ^ min 8 64) = ((a / 256 : Nat) : Int) := shrK a 8 (by decide)
theorem len_fin (c : Int) (k b : Nat) (hc : c = (k : Int)) (hb : b ≤ 8) (hk : k ≤ 56) : IntKind.i64.wrap (c + IntKind.i64.wrap (b : Int)) = ((k + b : Nat) : Int) := by
  rw [show IntKind.i64.wrap (b : Int) = (b : Int) from wrapS ⟨by omega, by omega⟩, wrapS ⟨by omega, by omega⟩]; omega
theorem lt_size (L : List UInt8) (n : Nat) (h : n < 256) (hs : L.length = 256) : (n : Int) < ((⟨L.toArray⟩ : ByteArray).size : Int) := by
  show (n : Int) < ((L.toArray.size : Nat) : Int)
  rw [List.size_toArray, hs]; omega
theorem len_last {L : List UInt8} {c : Int} (k n : Nat) (x : Nat) (hL : (List.range 256).all (fun j => (L.getD j 0).toNat == Lib.bitLen j) = true) (hn : n < 256) (hc : c = (k : Int)) (hk : k ≤ 56) (hx : Lib.bitLen x = k + Lib.bitLen n) :
    some (IV.int .i64 (IntKind.i64.wrap (c + IntKind.i64.wrap ((L.getD n 0).toNat : Int)))) = some (IV.int .i64 (Lib.bitLen x : Int)) := by
  rw [tab_bit hL n hn, len_fin c k _ hc (Lib.bitLen_le n 8 (by decide) hn) hk, hx]
theorem len_last0 {L : List UInt8} (n : Nat) (x : Nat) (hL : (List.range 256).all (fun j => (L.getD j 0).toNat == Lib.bitLen j) = true) (hn : n < 256) (hx : Lib.bitLen x = Lib.bitLen n) :
    some (IV.int .i64 (IntKind.i64.wrap (IntKind.i64.wrap ((L.getD n 0).toNat : Int)))) = some (IV.int .i64 (Lib.bitLen x : Int)) := by
  have := Lib.bitLen_le n 8 (by decide) hn
  rw [tab_bit hL n hn, wrapS (x := (Lib.bitLen n : Int)) ⟨by omega, by omega⟩, wrapS ⟨by omega, by omega⟩, hx]

theorem Len64_spec (x : Nat) (hx : x < 18446744073709551616) : PCalls Try.prog 63 [.int .u64 (x : Int)] (.int .i64 (Lib.bitLen x : Int)) := by
  refine PCalls.of_aw Try.func63 rfl (by unfold Callable; kernel_rfl) (by kernel_rfl) (by simp [Try.ntmps63]) ?_; rw [Try.ntmps63, Try.results63]; (simp (maxSteps := 1000000) (disch := first | omega | (simp only [List.length_append, List.length_cons, List.length_nil, List.length_map, bitsOf_len, readB_len, Int.natCast_add, Int.natCast_succ, Nat.zero_add, natCast_one, natCast_zero] <;> omega) | fail) only [go_sem])
  (repeat' (first
    | ((first | with_reducible refine aw_seq ?_ | with_reducible refine aw_region (aops_run ?_) | (with_reducible refine aw_regionD (fun _ => .p) mixed ?_ (dops_run ?_); (· kernel_rfl)) | (with_reducible refine aw_regionD (fun _ => .r) mixed ?_ (dops_run ?_); (· kernel_rfl)) | with_reducible refine aw_condK ?_ | with_reducible refine aw_skip ?_ | with_reducible refine aw_ret ?_ | with_reducible refine aw_exit ?_ | with_reducible refine aw_label ?_ | with_reducible refine aw_block ?_ | with_reducible refine aw_scope ?_ | with_reducible refine And.intro ?_ ?_) <;> (try (simp (maxSteps := 1000000) (disch := first | omega | (simp only [List.length_append, List.length_cons, List.length_nil, List.length_map, bitsOf_len, readB_len, Int.natCast_add, Int.natCast_succ, Nat.zero_add, natCast_one, natCast_zero] <;> omega) | fail) only [go_sem, shr32, shr16, shr8])))
    | ((first | with_reducible refine wantK_split (fun h => ?_) (fun h => ?_) | with_reducible refine condK_split (fun h => ?_) (fun h => ?_) | with_reducible refine pickV_split (fun h => ?_) (fun h => ?_)) <;> (try (simp (maxSteps := 1000000) (disch := first | omega | (simp only [List.length_append, List.length_cons, List.length_nil, List.length_map, bitsOf_len, readB_len, Int.natCast_add, Int.natCast_succ, Nat.zero_add, natCast_one, natCast_zero] <;> omega) | fail) only [go_sem] at h)) <;> (try (simp (maxSteps := 1000000) (disch := first | omega | (simp only [List.length_append, List.length_cons, List.length_nil, List.length_map, bitsOf_len, readB_len, Int.natCast_add, Int.natCast_succ, Nat.zero_add, natCast_one, natCast_zero] <;> omega) | fail) only [go_sem, h, shr32, shr16, shr8])))))
  all_goals (try omega)
  all_goals (try (exact lt_size _ _ (by omega) (by kernel_rfl)))
  · exact len_last 56 _ x (by kernel_rfl) (by omega) rfl (by omega) (by rw [Lib.bitLen_shift32 x (by omega) hx, Lib.bitLen_shift16 _ (by omega) (by omega), Lib.bitLen_shift8 _ (by omega) (by omega)]; omega)
  · exact len_last 48 _ x (by kernel_rfl) (by omega) rfl (by omega) (by rw [Lib.bitLen_shift32 x (by omega) hx, Lib.bitLen_shift16 _ (by omega) (by omega)]; omega)
  · exact len_last 40 _ x (by kernel_rfl) (by omega) rfl (by omega) (by rw [Lib.bitLen_shift32 x (by omega) hx, Lib.bitLen_shift8 _ (by omega) (by omega)]; omega)
  · exact len_last 32 _ x (by kernel_rfl) (by omega) rfl (by omega) (by rw [Lib.bitLen_shift32 x (by omega) hx])
  · exact len_last 24 _ x (by kernel_rfl) (by omega) rfl (by omega) (by rw [Lib.bitLen_shift16 x (by omega) (by omega), Lib.bitLen_shift8 _ (by omega) (by omega)]; omega)
  · exact len_last 16 _ x (by kernel_rfl) (by omega) rfl (by omega) (by rw [Lib.bitLen_shift16 x (by omega) (by omega)])
  · exact len_last 8 _ x (by kernel_rfl) (by omega) rfl (by omega) (by rw [Lib.bitLen_shift8 x (by omega) (by omega)])
  · exact len_last0 _ x (by kernel_rfl) (by omega) rfl
end Go.Proofs.Ytebegdnebjjnmaa.AM
