
/- Chapter 1: rows of bits. No condition but lengths that fit. -/
import Derived.Test.YtpjncojljamacaaGreatT
import Derived.Test.YtpjncojljamacaaGreatAC
import Derived.Lib.BitFns
import Derived.KernelRfl
set_option linter.unusedVariables false
set_option linter.unusedSimpArgs false
set_option maxRecDepth 20000
namespace Go.Proofs.YtpjncojljamacaaGreat.AM
open Go Go.RowKit

def bitsV (l : List Bool) : IV := .agg [.int .i64 l.length, .sl 1 (ws l)]
def blsV (l : List Bool) : IV := .sl 1 (l.map .bool)
def bldM (l : List Bool) : List MO := [.var 68 [.iv (.int .i64 l.length), .msl 1 0 ((l.length + 63) / 64) ((l.length + 63) / 64)], .row true 69 1 (ws l)]
attribute [go_sem] ws_len ws_get bldM
@[go_sem] theorem fold_bitsV (l : List Bool) {n : Int} (h : n = (l.length : Int)) : IV.agg [.int .i64 n, .sl 1 (ws l)] = bitsV l := by rw [h]; rfl
@[go_sem] theorem cells_bitsV (l : List Bool) : AV.cells (.iv (bitsV l)) = some [.iv (.int .i64 l.length), .iv (.sl 1 (ws l))] := rfl
@[go_sem] theorem icells_bitsV (l : List Bool) : IV.cells (bitsV l) = [.int .i64 l.length, .sl 1 (ws l)] := rfl
@[go_sem] theorem fits_bitsV (l : List Bool) : IV.fits 2 (bitsV l) = true := rfl
@[go_sem ↓] theorem toIVF_bitsV (M : List MO) (l : List Bool) : toIVF M (.iv (bitsV l)) = some (bitsV l, M) := rfl
@[go_sem] theorem fieldV_bitsV (ag : Option Nat) (off : Nat) (M : List MO) (l : List Bool) : fieldV ag off (.iv (bitsV l)) M = (elemPart ag (bitsV l) off).map fun v => (.p, .iv v, M) := rfl
@[go_sem] theorem wsAppGet (l : List Bool) (x : IV) {i : Nat} (h : i = (l.length + 63) / 64) : (ws l ++ [x])[i]? = some x := by
  rw [List.getElem?_append_right (by rw [ws_len]; omega), ws_len, h]; simp

@[go_sem] theorem wsTake (l : List Bool) {n : Nat} (h : (l.length + 63) / 64 ≤ n) : (ws l).take n = ws l := List.take_of_length_le (by rw [ws_len]; exact h)
@[go_sem] theorem replDrop (x : IV) {n k : Nat} (h : n ≤ k) : (List.replicate n x).drop k = [] := List.drop_of_length_le (by simpa using h)
@[go_sem] theorem getPB {α : Type} (p q : List α) (b : α) (f : α → IV) : ((p ++ b :: q).map f)[p.length]? = some (f b) := by simp
@[go_sem] theorem getDB {α : Type} (p q : List α) (b d : α) : (p ++ b :: q).getD p.length d = b := by simp [List.getD]
attribute [go_sem] Nat.min_self Nat.le_refl

theorem New_spec : MCalls Tryz.prog 24 [] [] (.mp 0 0) (bldM []) := by
  refine MCalls.of_aw Tryz.func24 rfl (by unfold Callable; kernel_rfl) (by kernel_rfl) (by simp [Tryz.ntmps24]) (by (simp (disch := first | exact dq | fail) only [go_sem])) ?_; rw [Tryz.ntmps24, Tryz.results24]; (simp (disch := first | exact dq | fail) only [go_sem])
  (repeat' first
  | ((with_reducible first | refine Nx.go ?_ | refine rP ?_ | refine rR ?_ | refine And.intro ?_ ?_ | fail) <;> try (simp (disch := first | exact dq | fail) only [go_sem]))
  | ((with_reducible refine Sp.go ?_ ?_) <;> intro h <;> (try (simp (disch := first | exact dq | fail) only [go_sem] at h)) <;> try (simp (disch := first | exact dq | fail) only [go_sem, h])) | fail)
  refine fin_wk (wk_ownc 69 1 0 1 rfl rfl) (fin_k [0, 1] ?_)
  (simp (disch := first | exact dq | fail) only [go_sem])
  simp [ws_nil]

theorem Add_spec (l : List Bool) (b : Bool) (hl : l.length ≤ 100000000000) : MCalls Tryz.prog 25 [.mp 0 0, .iv (.bool b)] (bldM l) (.iv (.int .i64 (l.length + 1))) (bldM (l ++ [b])) := by
  refine MCalls.of_aw Tryz.func25 rfl (by unfold Callable; kernel_rfl) (by kernel_rfl) (by simp [Tryz.ntmps25]) (by (simp (disch := first | exact dq | fail) only [go_sem])) ?_; rw [Tryz.ntmps25, Tryz.results25]; (simp (disch := first | exact dq | fail) only [go_sem])
  (repeat' first
  | ((with_reducible first | refine Nx.go ?_ | refine rP ?_ | refine rR ?_ | refine And.intro ?_ ?_ | fail) <;> try (simp (disch := first | exact dq | fail) only [go_sem]))
  | ((with_reducible refine Sp.go ?_ ?_) <;> intro h <;> (try (simp (disch := first | exact dq | fail) only [go_sem] at h)) <;> try (simp (disch := first | exact dq | fail) only [go_sem, h])) | fail)
  all_goals (try omega)
  all_goals (refine fin_k [0, 1] ?_; (simp (disch := first | exact dq | fail) only [go_sem]))
  · subst h; rw [ws_add_new1 l (by omega), show (l.length + 1 + 63) / 64 = (l.length + 63) / 64 + 1 from by omega]; exact ⟨rfl, rfl⟩
  · subst h; rw [ws_snoc_new l false (by omega), show (l.length + 1 + 63) / 64 = (l.length + 63) / 64 + 1 from by omega]; exact ⟨rfl, rfl⟩
  · subst h; rw [ws_add_old1 l (by omega), show (l.length + 1 + 63) / 64 = (l.length + 63) / 64 from by omega]; exact ⟨rfl, rfl⟩
  · subst h; rw [ws_add_old0 l (by omega), show (l.length + 1 + 63) / 64 = (l.length + 63) / 64 from by omega]; exact ⟨rfl, rfl⟩

theorem Bits_spec (l : List Bool) (hl : l.length ≤ 100000000000) : MCalls Tryz.prog 27 [.mp 0 0] (bldM l) (.iv (bitsV l)) (bldM l) := by
  refine MCalls.of_aw Tryz.func27 rfl (by unfold Callable; kernel_rfl) (by kernel_rfl) (by simp [Tryz.ntmps27]) (by (simp (disch := first | exact dq | fail) only [go_sem])) ?_; rw [Tryz.ntmps27, Tryz.results27]; (simp (disch := first | exact dq | fail) only [go_sem])
  (repeat' first
  | ((with_reducible first | refine Nx.go ?_ | refine rP ?_ | refine rR ?_ | refine And.intro ?_ ?_ | fail) <;> try (simp (disch := first | exact dq | fail) only [go_sem]))
  | ((with_reducible refine Sp.go ?_ ?_) <;> intro h <;> (try (simp (disch := first | exact dq | fail) only [go_sem] at h)) <;> try (simp (disch := first | exact dq | fail) only [go_sem, h])) | fail)
  all_goals (try omega)
  refine fin_f [0, 1] ?_
  (simp (disch := first | exact dq | fail) only [go_sem])

end Go.Proofs.YtpjncojljamacaaGreat.AM
set_option linter.unusedVariables false
set_option linter.unusedSimpArgs false
set_option maxRecDepth 20000
namespace Go.Proofs.YtpjncojljamacaaGreat.AM
open Go Go.RowKit

theorem Len_spec (l : List Bool) : PCalls Tryz.prog 44 [bitsV l] (.int .i64 l.length) := by
  refine PCalls.of_aw Tryz.func44 rfl (by unfold Callable; kernel_rfl) (by kernel_rfl) (by simp [Tryz.ntmps44]) ?_; rw [Tryz.ntmps44, Tryz.results44]; (simp (disch := first | exact dq | fail) only [go_sem])
  (repeat' first
  | ((with_reducible first | refine Nx.go ?_ | refine rP ?_ | refine rR ?_ | refine And.intro ?_ ?_ | fail) <;> try (simp (disch := first | exact dq | fail) only [go_sem]))
  | ((with_reducible refine Sp.go ?_ ?_) <;> intro h <;> (try (simp (disch := first | exact dq | fail) only [go_sem] at h)) <;> try (simp (disch := first | exact dq | fail) only [go_sem, h])) | fail)

theorem One_spec (l : List Bool) (i : Int) (hl : l.length ≤ 100000000000) : PCalls Tryz.prog 53 [bitsV l, .int .i64 i] (.int .i64 (oneAt l i)) := by
  refine PCalls.of_aw Tryz.func53 rfl (by unfold Callable; kernel_rfl) (by kernel_rfl) (by simp [Tryz.ntmps53]) ?_; rw [Tryz.ntmps53, Tryz.results53]; (simp (disch := first | exact dq | fail) only [go_sem])
  (repeat' first
  | ((with_reducible first | refine Nx.go ?_ | refine rP ?_ | refine rR ?_ | refine And.intro ?_ ?_ | fail) <;> try (simp (disch := first | exact dq | fail) only [go_sem]))
  | ((with_reducible refine Sp.go ?_ ?_) <;> intro h <;> (try (simp (disch := first | exact dq | fail) only [go_sem] at h)) <;> try (simp (disch := first | exact dq | fail) only [go_sem, h])) | fail)
  all_goals (try omega)
  · rw [oneAt_out l (by omega)]
  · rw [oneAt_word l (by omega) (by omega)]
  · rw [oneAt_out l (by omega)]

theorem OnesCount64_spec (x : Nat) (hx : x < 18446744073709551616) : PCalls Tryz.prog 91 [.int .u64 (x : Int)] (.int .i64 (pc 64 x : Int)) := by
  refine PCalls.of_aw Tryz.func91 rfl (by unfold Callable; kernel_rfl) (by kernel_rfl) (by simp [Tryz.ntmps91]) ?_; rw [Tryz.ntmps91, Tryz.results91]; (simp (disch := first | exact dq | fail) only [go_sem])
  (repeat' first
  | ((with_reducible first | refine Nx.go ?_ | refine rP ?_ | refine rR ?_ | refine And.intro ?_ ?_ | fail) <;> try (simp (disch := first | exact dq | fail) only [go_sem, w_o1 x hx, w_o2 x, w_o3 x, w_o4 x hx, w_o5 x hx, w_o6 x hx, w_o7 x hx]))
  | ((with_reducible refine Sp.go ?_ ?_) <;> intro h <;> (try (simp (disch := first | exact dq | fail) only [go_sem] at h)) <;> try (simp (disch := first | exact dq | fail) only [go_sem, h, w_o1 x hx, w_o2 x, w_o3 x, w_o4 x hx, w_o5 x hx, w_o6 x hx, w_o7 x hx])) | fail)

def errAt (l : List Bool) (i : Int) : Int := if 0 ≤ i ∧ i < l.length then 0 else 13
theorem ahead1_spec (x : Nat) (n : Int) (hx : x < 18446744073709551616) (hn : 0 ≤ n ∧ n ≤ 100000000000) : MCalls Tryz.prog 90 [.iv (.int .u64 (x : Int)), .mp 0 0] [.var 3 [.iv (.int .i64 n)]] (.tup []) [.var 3 [.iv (.int .i64 (n + pc 64 x))]] := by
  refine MCalls.of_aw Tryz.func90 rfl (by unfold Callable; kernel_rfl) (by kernel_rfl) (by simp [Tryz.ntmps90]) (by (simp (disch := first | exact dq | fail) only [go_sem])) ?_; rw [Tryz.ntmps90, Tryz.results90]; (simp (disch := first | exact dq | fail) only [go_sem])
  have hpc := pc_le x hx
  (repeat' first
  | ((with_reducible first | refine Nx.go ?_ | refine rP ?_ | refine rR ?_ | refine And.intro ?_ ?_ | fail) <;> try (simp (disch := first | exact dq | fail) only [go_sem]))
  | ((with_reducible refine Sp.go ?_ ?_) <;> intro h <;> (try (simp (disch := first | exact dq | fail) only [go_sem] at h)) <;> try (simp (disch := first | exact dq | fail) only [go_sem, h])) | fail)
  all_goals (try omega)
  ((with_reducible first | apply left_callf | apply leftD_callf | apply leftF_callf); (· with_reducible rfl); (· (simp (disch := first | exact dq | fail) only [go_sem]) <;> rfl); (· exact OnesCount64_spec x hx); try (simp (disch := first | exact dq | fail) only [go_sem]))
  (repeat' first
  | ((with_reducible first | refine Nx.go ?_ | refine rP ?_ | refine rR ?_ | refine And.intro ?_ ?_ | fail) <;> try (simp (disch := first | exact dq | fail) only [go_sem]))
  | ((with_reducible refine Sp.go ?_ ?_) <;> intro h <;> (try (simp (disch := first | exact dq | fail) only [go_sem] at h)) <;> try (simp (disch := first | exact dq | fail) only [go_sem, h])) | fail)
  refine fin_k [0] ?_
  (simp (disch := first | exact dq | fail) only [go_sem])

theorem ahead_spec (l : List Bool) (i : Int) (hl : l.length ≤ 100000000000) (hi : 0 ≤ i ∧ i ≤ l.length) : PCalls Tryz.prog 73 [bitsV l, .int .i64 i] (.int .i64 (cnt l i.toNat)) := by
  refine PCalls.of_aw Tryz.func73 rfl (by unfold Callable; kernel_rfl) (by kernel_rfl) (by simp [Tryz.ntmps73]) ?_; rw [Tryz.ntmps73, Tryz.results73]; (simp (disch := first | exact dq | fail) only [go_sem])
  (repeat' first
  | ((with_reducible first | refine Nx.go ?_ | refine rP ?_ | refine rR ?_ | refine And.intro ?_ ?_ | fail) <;> try (simp (disch := first | exact dq | fail) only [go_sem]))
  | ((with_reducible refine Sp.go ?_ ?_) <;> intro h <;> (try (simp (disch := first | exact dq | fail) only [go_sem] at h)) <;> try (simp (disch := first | exact dq | fail) only [go_sem, h])) | fail)
  all_goals (try omega)
  refine aw_loop (α := Nat) (fun k => ⟨41, sl [(1, .iv (.int .i64 i)), (2, .mp 0 0), (5, .mp 1 0), (6, .fn 90 [.mp 1 0]), (14, .iv (.sl 1 ((ws l).take (i / 64).toNat))), (15, .iv (.int .i64 (i / 64))), (16, .iv (.int .i64 k))],
      [.var 56 [.iv (.int .i64 l.length), .iv (.sl 1 (ws l))], .var 3 [.iv (.int .i64 (cnt l (64 * k)))]], 0⟩)
    (fun k => (k : Int) ≤ i / 64) (fun k => (i / 64).toNat - k) 0 (wk_by [0, 1] ?_) (by omega) ?_
  · (simp (disch := first | exact dq | fail) only [go_sem])
    refine ⟨?_, ?_⟩
    · rw [show cnt l (64 * 0) = 0 from cnt_zero l]; rfl
    · congr 2; omega
  rintro k hk
  have hc := cnt_le l (64 * k)
  (repeat' first
  | ((with_reducible first | refine Nx.go ?_ | refine rW ?_ | refine And.intro ?_ ?_ | fail) <;> try (simp (disch := first | exact dq | fail) only [go_sem]))
  | ((with_reducible refine Sp.go ?_ ?_) <;> intro h <;> (try (simp (disch := first | exact dq | fail) only [go_sem] at h)) <;> try (simp (disch := first | exact dq | fail) only [go_sem, h])) | fail)
  all_goals (try omega)
  · ((first | with_reducible refine left_callMs [1] (ahead1_spec (wordAt l k) (cnt l (64 * k)) (wordAt_lt l k) (by omega)) ?_ ?_ | with_reducible refine leftD_callMs [1] rfl (ahead1_spec (wordAt l k) (cnt l (64 * k)) (wordAt_lt l k) (by omega)) ?_ ?_ | with_reducible refine leftD_callRs [1] (by decide) (ahead1_spec (wordAt l k) (cnt l (64 * k)) (wordAt_lt l k) (by omega)) ?_ ?_); (· (simp (disch := first | exact dq | fail) only [go_sem])); try (simp (disch := first | exact dq | fail) only [go_sem]))
    (repeat' first
  | ((with_reducible first | refine Nx.go ?_ | refine rP ?_ | refine rR ?_ | refine And.intro ?_ ?_ | fail) <;> try (simp (disch := first | exact dq | fail) only [go_sem]))
  | ((with_reducible refine Sp.go ?_ ?_) <;> intro h <;> (try (simp (disch := first | exact dq | fail) only [go_sem] at h)) <;> try (simp (disch := first | exact dq | fail) only [go_sem, h])) | fail)
    refine ⟨k + 1, by omega, wk_by [0, 1] ?_, by omega⟩
    (simp (disch := first | exact dq | fail) only [go_sem])
    rw [cnt_word]; rfl
  · have ek : (i / 64).toNat = k := by omega
    have em : (i / 64).toNat * 64 + (i % 64).toNat = i.toNat := by omega
    (simp (disch := first | exact dq | fail) only [go_sem, mask_word (wordAt l (i / 64).toNat) (wordAt_lt l (i / 64).toNat) (r := i % 64) (by omega) (by omega)])
    ((first | with_reducible refine left_callMs [1] (ahead1_spec (wordAt l (i / 64).toNat % 2 ^ (i % 64).toNat) (cnt l (64 * k)) (Nat.lt_of_le_of_lt (Nat.mod_le _ _) (wordAt_lt l _)) (by omega)) ?_ ?_ | with_reducible refine leftD_callMs [1] rfl (ahead1_spec (wordAt l (i / 64).toNat % 2 ^ (i % 64).toNat) (cnt l (64 * k)) (Nat.lt_of_le_of_lt (Nat.mod_le _ _) (wordAt_lt l _)) (by omega)) ?_ ?_ | with_reducible refine leftD_callRs [1] (by decide) (ahead1_spec (wordAt l (i / 64).toNat % 2 ^ (i % 64).toNat) (cnt l (64 * k)) (Nat.lt_of_le_of_lt (Nat.mod_le _ _) (wordAt_lt l _)) (by omega)) ?_ ?_); (· (simp (disch := first | exact dq | fail) only [go_sem])); try (simp (disch := first | exact dq | fail) only [go_sem]))
    (repeat' first
  | ((with_reducible first | refine Nx.go ?_ | refine rP ?_ | refine rR ?_ | refine And.intro ?_ ?_ | fail) <;> try (simp (disch := first | exact dq | fail) only [go_sem]))
  | ((with_reducible refine Sp.go ?_ ?_) <;> intro h <;> (try (simp (disch := first | exact dq | fail) only [go_sem] at h)) <;> try (simp (disch := first | exact dq | fail) only [go_sem, h])) | fail)
    have := cnt_part l k (i % 64).toNat (by omega)
    rw [show 64 * k + (i % 64).toNat = i.toNat from by omega] at this
    rw [this, ek]; rfl
  · rw [show 64 * k = i.toNat from by omega]

theorem Ones_spec (l : List Bool) (a b : Int) (hl : l.length ≤ 100000000000) : PCalls Tryz.prog 45 [bitsV l, .int .i64 a, .int .i64 b] (.int .i64 ((cnt l (min (max b (min (max a 0) l.length)) l.length).toNat : Int) - cnt l (min (max a 0) l.length).toNat)) := by
  refine PCalls.of_aw Tryz.func45 rfl (by unfold Callable; kernel_rfl) (by kernel_rfl) (by simp [Tryz.ntmps45]) ?_; rw [Tryz.ntmps45, Tryz.results45]; (simp (disch := first | exact dq | fail) only [go_sem])
  have h1 := cnt_le l (min (max b (min (max a 0) l.length)) l.length).toNat
  have h2 := cnt_le l (min (max a 0) l.length).toNat
  (repeat' first
  | ((with_reducible first | refine Nx.go ?_ | refine rP ?_ | refine rR ?_ | refine And.intro ?_ ?_ | fail) <;> try (simp (disch := first | exact dq | fail) only [go_sem]))
  | ((with_reducible refine Sp.go ?_ ?_) <;> intro h <;> (try (simp (disch := first | exact dq | fail) only [go_sem] at h)) <;> try (simp (disch := first | exact dq | fail) only [go_sem, h])) | fail)
  all_goals (try omega)
  ((with_reducible first | apply left_callf | apply leftD_callf | apply leftF_callf); (· with_reducible rfl); (· (simp (disch := first | exact dq | fail) only [go_sem]) <;> rfl); (· exact ahead_spec l _ hl (by omega)); try (simp (disch := first | exact dq | fail) only [go_sem]))
  ((with_reducible first | apply left_callf | apply leftD_callf | apply leftF_callf); (· with_reducible rfl); (· (simp (disch := first | exact dq | fail) only [go_sem]) <;> rfl); (· exact ahead_spec l _ hl (by omega)); try (simp (disch := first | exact dq | fail) only [go_sem]))
  (repeat' first
  | ((with_reducible first | refine Nx.go ?_ | refine rP ?_ | refine rR ?_ | refine And.intro ?_ ?_ | fail) <;> try (simp (disch := first | exact dq | fail) only [go_sem]))
  | ((with_reducible refine Sp.go ?_ ?_) <;> intro h <;> (try (simp (disch := first | exact dq | fail) only [go_sem] at h)) <;> try (simp (disch := first | exact dq | fail) only [go_sem, h])) | fail)
end Go.Proofs.YtpjncojljamacaaGreat.AM
set_option linter.unusedVariables false
set_option linter.unusedSimpArgs false
set_option maxRecDepth 20000
namespace Go.Proofs.YtpjncojljamacaaGreat.AM
open Go Go.RowKit

theorem tab_bit {L : List UInt8} (hL : (List.range 256).all (fun j => (L.getD j 0).toNat == Lib.bitLen j) = true) (j : Nat) (hj : j < 256) : (L.getD j 0).toNat = Lib.bitLen j := by
  have := List.all_eq_true.1 hL j (List.mem_range.2 hj)
  simpa using this
theorem shr32 (a : Nat) : (a : Int).fdiv (2 ^ min 32 64) = ((a / 4294967296 : Nat) : Int) := shrK a 32 (by decide)
theorem shr16 (a : Nat) : (a : Int).fdiv (2 ^ min 16 64) = ((a / 65536 : Nat) : Int) := shrK a 16 (by decide)
theorem shr8 (a : Nat) : (a : Int).fdiv (2 ^ min 8 64) = ((a / 256 : Nat) : Int) := shrK a 8 (by decide)
theorem len_fin (c : Int) (k b : Nat) (hc : c = (k : Int)) (hb : b ≤ 8) (hk : k ≤ 56) : IntKind.i64.wrap (c + IntKind.i64.wrap (b : Int)) = ((k + b : Nat) : Int) := by
  rw [show IntKind.i64.wrap (b : Int) = (b : Int) from wrapS ⟨by omega, by omega⟩, wrapS ⟨by omega, by omega⟩]; omega
theorem lt_size (L : List UInt8) (n : Nat) (h : n < 256) (hs : L.length = 256) : (n : Int) < ((⟨L.toArray⟩ : ByteArray).size : Int) := by
  show (n : Int) < ((L.toArray.size : Nat) : Int)
  rw [List.size_toArray, hs]; omega
theorem len_last {L : List UInt8} {c : Int} (k n : Nat) (x : Nat) (hL : (List.range 256).all (fun j => (L.getD j 0).toNat == Lib.bitLen j) = true) (hn : n < 256) (hc : c = (k : Int)) (hk : k ≤ 56) (hx : Lib.bitLen x = k + Lib.bitLen n) :
    some (IV.int .i64 (IntKind.i64.wrap (c + IntKind.i64.wrap ((L.getD n 0).toNat : Int)))) = some (IV.int .i64 (Lib.bitLen x : Int)) := by
  rw [tab_bit hL n hn, len_fin c k _ hc (Lib.bitLen_le n 8 (by decide) hn) hk, hx]
theorem len_last0 {L : List UInt8} (n : Nat) (x : Nat) (hL : (List.range 256).all (fun j => (L.getD j 0).toNat == Lib.bitLen j) = true) (hn : n < 256) (hx : Lib.bitLen x = Lib.bitLen n) :
    some (IV.int .i64 (IntKind.i64.wrap (IntKind.i64.wrap ((L.getD n 0).toNat : Int)))) = some (IV.int .i64 (Lib.bitLen x : Int)) := by
  have := Lib.bitLen_le n 8 (by decide) hn
  rw [tab_bit hL n hn, wrapS (x := (Lib.bitLen n : Int)) ⟨by omega, by omega⟩, wrapS ⟨by omega, by omega⟩, hx]

theorem Len64_spec (x : Nat) (hx : x < 18446744073709551616) : PCalls Tryz.prog 104 [.int .u64 (x : Int)] (.int .i64 (Lib.bitLen x : Int)) := by
  refine PCalls.of_aw Tryz.func104 rfl (by unfold Callable; kernel_rfl) (by kernel_rfl) (by simp [Tryz.ntmps104]) ?_; rw [Tryz.ntmps104, Tryz.results104]; (simp (disch := first | exact dq | fail) only [go_sem])
  (repeat' first
  | ((with_reducible first | refine Nx.go ?_ | refine And.intro ?_ ?_ | fail) <;> try (simp (disch := first | exact dq | fail) only [go_sem, shr32, shr16, shr8]))
  | ((with_reducible refine Sp.go ?_ ?_) <;> intro h <;> (try (simp (disch := first | exact dq | fail) only [go_sem] at h)) <;> try (simp (disch := first | exact dq | fail) only [go_sem, h, shr32, shr16, shr8])) | fail)
  all_goals (try omega)
  all_goals (try (exact lt_size _ _ (by omega) (by kernel_rfl)))
  · exact len_last 56 _ x (by kernel_rfl) (by omega) rfl (by omega) (by rw [Lib.bitLen_shift32 x (by omega) hx, Lib.bitLen_shift16 _ (by omega) (by omega), Lib.bitLen_shift8 _ (by omega) (by omega)]; omega)
  · exact len_last 48 _ x (by kernel_rfl) (by omega) rfl (by omega) (by rw [Lib.bitLen_shift32 x (by omega) hx, Lib.bitLen_shift16 _ (by omega) (by omega)]; omega)
  · exact len_last 40 _ x (by kernel_rfl) (by omega) rfl (by omega) (by rw [Lib.bitLen_shift32 x (by omega) hx, Lib.bitLen_shift8 _ (by omega) (by omega)]; omega)
  · exact len_last 32 _ x (by kernel_rfl) (by omega) rfl (by omega) (by rw [Lib.bitLen_shift32 x (by omega) hx])
  · exact len_last 24 _ x (by kernel_rfl) (by omega) rfl (by omega) (by rw [Lib.bitLen_shift16 x (by omega) (by omega), Lib.bitLen_shift8 _ (by omega) (by omega)]; omega)
  · exact len_last 16 _ x (by kernel_rfl) (by omega) rfl (by omega) (by rw [Lib.bitLen_shift16 x (by omega) (by omega)])
  · exact len_last 8 _ x (by kernel_rfl) (by omega) rfl (by omega) (by rw [Lib.bitLen_shift8 x (by omega) (by omega)])
  · exact len_last0 _ x (by kernel_rfl) (by omega) rfl
end Go.Proofs.YtpjncojljamacaaGreat.AM
set_option linter.unusedVariables false
set_option linter.unusedSimpArgs false
set_option maxRecDepth 20000
namespace Go.Proofs.YtpjncojljamacaaGreat.AM
open Go Go.RowKit

attribute [go_sem] bitsOf_len isU8
def fitsB (n : Nat) (w : Int) : Bool := decide (0 ≤ w ∧ w ≤ 64 ∧ n < 2 ^ w.toNat)
theorem fits_spec (n : Nat) (w : Int) (hn : n < 18446744073709551616) : PCalls Tryz.prog 110 [.int .u64 (n : Int), .int .i64 w] (.bool (fitsB n w)) := by
  refine PCalls.of_aw Tryz.func110 rfl (by unfold Callable; kernel_rfl) (by kernel_rfl) (by simp [Tryz.ntmps110]) ?_; rw [Tryz.ntmps110, Tryz.results110]; (simp (disch := first | exact dq | fail) only [go_sem])
  (repeat' first
  | ((with_reducible first | refine Nx.go ?_ | refine rP ?_ | refine rR ?_ | refine And.intro ?_ ?_ | fail) <;> try (simp (disch := first | exact dq | fail) only [go_sem]))
  | ((with_reducible refine Sp.go ?_ ?_) <;> intro h <;> (try (simp (disch := first | exact dq | fail) only [go_sem] at h)) <;> try (simp (disch := first | exact dq | fail) only [go_sem, h])) | fail)
  · ((with_reducible first | apply left_callf | apply leftD_callf | apply leftF_callf); (· with_reducible rfl); (· (simp (disch := first | exact dq | fail) only [go_sem]) <;> rfl); (· exact Len64_spec n hn); try (simp (disch := first | exact dq | fail) only [go_sem]))
    (repeat' first
  | ((with_reducible first | refine Nx.go ?_ | refine rP ?_ | refine rR ?_ | refine And.intro ?_ ?_ | fail) <;> try (simp (disch := first | exact dq | fail) only [go_sem]))
  | ((with_reducible refine Sp.go ?_ ?_) <;> intro h <;> (try (simp (disch := first | exact dq | fail) only [go_sem] at h)) <;> try (simp (disch := first | exact dq | fail) only [go_sem, h])) | fail)
    have := bitLen_fits n hn (w := w.toNat) (by omega)
    congr 2
    unfold fitsB
    rw [decide_eq_decide]
    constructor
    · intro h; exact ⟨by omega, by omega, this.1 (by omega)⟩
    · rintro ⟨_, _, h3⟩; have := this.2 h3; omega
  · unfold fitsB; rw [decide_eq_false (by omega)]
  · unfold fitsB; rw [decide_eq_false (by omega)]

theorem Put_bad (l : List Bool) (n : Nat) (w : Int) (hn : n < 18446744073709551616) (hf : fitsB n w = false) : MCalls Tryz.prog 94 [.mp 0 0, .iv (.int .u64 (n : Int)), .iv (.int .i64 w)] (bldM l) (.iv (.int .i64 1)) (bldM l) := by
  refine MCalls.of_aw Tryz.func94 rfl (by unfold Callable; kernel_rfl) (by kernel_rfl) (by simp [Tryz.ntmps94]) (by (simp (disch := first | exact dq | fail) only [go_sem])) ?_; rw [Tryz.ntmps94, Tryz.results94]; (simp (disch := first | exact dq | fail) only [go_sem])
  (repeat' first
  | ((with_reducible first | refine Nx.go ?_ | refine rP ?_ | refine rR ?_ | refine And.intro ?_ ?_ | fail) <;> try (simp (disch := first | exact dq | fail) only [go_sem]))
  | ((with_reducible refine Sp.go ?_ ?_) <;> intro h <;> (try (simp (disch := first | exact dq | fail) only [go_sem] at h)) <;> try (simp (disch := first | exact dq | fail) only [go_sem, h])) | fail)
  ((with_reducible first | apply left_callf | apply leftD_callf | apply leftF_callf); (· with_reducible rfl); (· (simp (disch := first | exact dq | fail) only [go_sem]) <;> rfl); (· exact fits_spec n w hn); try (simp (disch := first | exact dq | fail) only [go_sem]))
  (simp (disch := first | exact dq | fail) only [go_sem, hf])
  (repeat' first
  | ((with_reducible first | refine Nx.go ?_ | refine rP ?_ | refine rR ?_ | refine And.intro ?_ ?_ | fail) <;> try (simp (disch := first | exact dq | fail) only [go_sem]))
  | ((with_reducible refine Sp.go ?_ ?_) <;> intro h <;> (try (simp (disch := first | exact dq | fail) only [go_sem] at h)) <;> try (simp (disch := first | exact dq | fail) only [go_sem, h])) | fail)
  refine fin_k [0, 1] ?_
  (simp (disch := first | exact dq | fail) only [go_sem])
theorem Put_nil (n : Nat) (w : Int) : PCalls Tryz.prog 94 [.nilp, .int .u64 (n : Int), .int .i64 w] (.int .i64 1) := by
  refine PCalls.of_aw Tryz.func94 rfl (by unfold Callable; kernel_rfl) (by kernel_rfl) (by simp [Tryz.ntmps94]) ?_; rw [Tryz.ntmps94, Tryz.results94]; (simp (disch := first | exact dq | fail) only [go_sem])
  (repeat' first
  | ((with_reducible first | refine Nx.go ?_ | refine rP ?_ | refine rR ?_ | refine And.intro ?_ ?_ | fail) <;> try (simp (disch := first | exact dq | fail) only [go_sem]))
  | ((with_reducible refine Sp.go ?_ ?_) <;> intro h <;> (try (simp (disch := first | exact dq | fail) only [go_sem] at h)) <;> try (simp (disch := first | exact dq | fail) only [go_sem, h])) | fail)

theorem Put_ok (l : List Bool) (n : Nat) (w : Int) (hn : n < 18446744073709551616) (hl : l.length ≤ 99999999900) (hf : fitsB n w = true) : MCalls Tryz.prog 94 [.mp 0 0, .iv (.int .u64 (n : Int)), .iv (.int .i64 w)] (bldM l) (.iv (.int .i64 0)) (bldM (l ++ bitsOf n w.toNat)) := by
  have hf' := hf
  unfold fitsB at hf'
  rw [decide_eq_true_eq] at hf'
  obtain ⟨hw0, hw1, hnw⟩ := hf'
  refine MCalls.of_aw Tryz.func94 rfl (by unfold Callable; kernel_rfl) (by kernel_rfl) (by simp [Tryz.ntmps94]) (by (simp (disch := first | exact dq | fail) only [go_sem, bitsOf_len])) ?_; rw [Tryz.ntmps94, Tryz.results94]; (simp (disch := first | exact dq | fail) only [go_sem, bitsOf_len])
  (repeat' first
  | ((with_reducible first | refine Nx.go ?_ | refine rP ?_ | refine rR ?_ | refine And.intro ?_ ?_ | fail) <;> try (simp (disch := first | exact dq | fail) only [go_sem]))
  | ((with_reducible refine Sp.go ?_ ?_) <;> intro h <;> (try (simp (disch := first | exact dq | fail) only [go_sem] at h)) <;> try (simp (disch := first | exact dq | fail) only [go_sem, h])) | fail)
  ((with_reducible first | apply left_callf | apply leftD_callf | apply leftF_callf); (· with_reducible rfl); (· (simp (disch := first | exact dq | fail) only [go_sem]) <;> rfl); (· exact fits_spec n w hn); try (simp (disch := first | exact dq | fail) only [go_sem]))
  (simp (disch := first | exact dq | fail) only [go_sem, hf])
  (repeat' first
  | ((with_reducible first | refine Nx.go ?_ | refine rP ?_ | refine rR ?_ | refine And.intro ?_ ?_ | fail) <;> try (simp (disch := first | exact dq | fail) only [go_sem]))
  | ((with_reducible refine Sp.go ?_ ?_) <;> intro h <;> (try (simp (disch := first | exact dq | fail) only [go_sem] at h)) <;> try (simp (disch := first | exact dq | fail) only [go_sem, h])) | fail)
  refine aw_loop (α := Nat) (fun j => ⟨28, sl [(0, .mp 0 0), (1, .iv (.int .u64 (n : Int))), (16, .iv (.int .i64 w)), (17, .iv (.int .i64 j))], bldM (l ++ bitsOf n j), 2⟩)
    (fun j => (j : Int) ≤ w) (fun j => w.toNat - j) 0 (wk_by [0, 1] ?_) (by omega) ?_
  · (simp (disch := first | exact dq | fail) only [go_sem])
    simp [bitsOf]
  rintro j hj
  (repeat' first
  | ((with_reducible first | refine Nx.go ?_ | refine rP ?_ | refine rR ?_ | refine And.intro ?_ ?_ | fail) <;> try (simp (disch := first | exact dq | fail) only [go_sem]))
  | ((with_reducible refine Sp.go ?_ ?_) <;> intro h <;> (try (simp (disch := first | exact dq | fail) only [go_sem] at h)) <;> try (simp (disch := first | exact dq | fail) only [go_sem, h])) | fail)
  all_goals (try omega)
  · have hb := bit_of n hn (i := (j : Int)) (by omega) (by omega)
    rw [Int.toNat_natCast] at hb
    (simp (disch := first | exact dq | fail) only [go_sem, hb])
    ((first | with_reducible refine left_callMs [0, 1] (Add_spec (l ++ bitsOf n j) (n / 2 ^ j % 2 == 1) (by simp [bitsOf_len]; omega)) ?_ ?_ | with_reducible refine leftD_callMs [0, 1] rfl (Add_spec (l ++ bitsOf n j) (n / 2 ^ j % 2 == 1) (by simp [bitsOf_len]; omega)) ?_ ?_ | with_reducible refine leftD_callRs [0, 1] (by decide) (Add_spec (l ++ bitsOf n j) (n / 2 ^ j % 2 == 1) (by simp [bitsOf_len]; omega)) ?_ ?_); (· (simp (disch := first | exact dq | fail) only [go_sem])); try (simp (disch := first | exact dq | fail) only [go_sem]))
    (repeat' first
  | ((with_reducible first | refine Nx.go ?_ | refine rP ?_ | refine rR ?_ | refine And.intro ?_ ?_ | fail) <;> try (simp (disch := first | exact dq | fail) only [go_sem]))
  | ((with_reducible refine Sp.go ?_ ?_) <;> intro h <;> (try (simp (disch := first | exact dq | fail) only [go_sem] at h)) <;> try (simp (disch := first | exact dq | fail) only [go_sem, h])) | fail)
    refine ⟨j + 1, by omega, wk_by [0, 1] ?_, by omega⟩
    (simp (disch := first | exact dq | fail) only [go_sem, bitsOf_succ, List.append_assoc])
  · have e : w.toNat = j := by omega
    rw [e]
    refine fin_k [0, 1] ?_
    (simp (disch := first | exact dq | fail) only [go_sem])

theorem oneAt_mid (p q : List Bool) (b : Bool) : oneAt (p ++ b :: q) (p.length : Int) = (b.toNat : Int) := by
  unfold oneAt
  rw [if_pos ⟨by omega, by simp; omega⟩]
  simp [List.getD]
theorem toNat_one (b : Bool) : decide ((b.toNat : Int) = 1) = b := by cases b <;> rfl
attribute [go_sem] toNat_one

end Go.Proofs.YtpjncojljamacaaGreat.AM
set_option linter.unusedVariables false
set_option linter.unusedSimpArgs false
set_option maxRecDepth 20000
namespace Go.Proofs.YtpjncojljamacaaGreat.AM
open Go Go.RowKit

def numE (l : List Bool) (a w : Int) : Int := if w < 0 ∨ 64 < w then 1 else if a < 0 ∨ (l.length : Int) < a ∨ (l.length : Int) - a < w then 13 else 0
def numV (l : List Bool) (a w : Int) : Nat := if numE l a w = 0 then numN l a.toNat w.toNat else 0

theorem part_full (l : List Bool) (i : Nat) : ((wordAt l (i / 64) : Nat) : Int).fdiv (2 ^ min (i % 64) 64) = (numN l i (64 - i % 64) : Int) := by
  have := shrN (wordAt l (i / 64)) (r := ((i % 64 : Nat) : Int)) (by omega) (by omega)
  rw [Int.toNat_natCast] at this
  rw [this, word_shr]
theorem part_mask (l : List Bool) (i m : Nat) (hm : m < 64) (h : m ≤ 64 - i % 64) : bitI .and .u64 (numN l i (64 - i % 64) : Int) (IntKind.u64.wrap (IntKind.u64.wrap (1 * 2 ^ min m 64) - 1)) = (numN l i m : Int) := by
  have h1 : numN l i (64 - i % 64) < 18446744073709551616 := Nat.lt_of_lt_of_le (numN_lt _ _ _) (Nat.pow_le_pow_right (n := 2) (by decide) (show 64 - i % 64 ≤ 64 by omega))
  have := mask_word (numN l i (64 - i % 64)) h1 (r := (m : Int)) (by omega) (by omega)
  rw [Int.toNat_natCast] at this
  rw [this, numN_mod l i h]
theorem part_or (l : List Bool) (a g m : Nat) (h : a + g ≤ l.length) (hg : g + m ≤ 64) (hg2 : g < 64) : bitI .or .u64 (numN l a g : Int) (IntKind.u64.wrap ((numN l (a + g) m : Int) * 2 ^ min g 64)) = (numN l a (g + m) : Int) := by
  have h0 := numN_lt l a (g + m)
  have h1 := numN_lt l (a + g) m
  have h2 := numN_lt l a g
  have h64 : (2 : Nat) ^ (g + m) ≤ 18446744073709551616 := Nat.pow_le_pow_right (n := 2) (by decide) hg
  have hadd := numN_add l a g m h
  have h3 : numN l (a + g) m * 2 ^ g < 18446744073709551616 := by rw [Nat.mul_comm]; omega
  have := shlN (numN l (a + g) m) (r := (g : Int)) (by omega) (by omega) (by rw [Int.toNat_natCast]; exact h3)
  rw [Int.toNat_natCast] at this
  rw [this, bitor64 _ _ (by omega) h3, Nat.mul_comm, or_top _ h2, hadd]

theorem Number_ok (l : List Bool) (a w : Nat) (hl : l.length ≤ 100000000000) (hw : w ≤ 64) (ha : a + w ≤ l.length) : PCalls Tryz.prog 49 [bitsV l, .int .i64 a, .int .i64 w] (.tup [.int .u64 (numN l a w : Int), .int .i64 0]) := by
  refine PCalls.of_aw Tryz.func49 rfl (by unfold Callable; kernel_rfl) (by kernel_rfl) (by simp [Tryz.ntmps49]) ?_; rw [Tryz.ntmps49, Tryz.results49]; (simp (disch := first | exact dq | fail) only [go_sem])
  (repeat' first
  | ((with_reducible first | refine Nx.go ?_ | refine rP ?_ | refine rR ?_ | refine And.intro ?_ ?_ | fail) <;> try (simp (disch := first | exact dq | fail) only [go_sem]))
  | ((with_reducible refine Sp.go ?_ ?_) <;> intro h <;> (try (simp (disch := first | exact dq | fail) only [go_sem] at h)) <;> try (simp (disch := first | exact dq | fail) only [go_sem, h])) | fail)
  all_goals (try omega)
  refine aw_loop (α := Nat) (fun g => ⟨75, sl [(1, .iv (.int .i64 a)), (2, .iv (.int .i64 w)), (3, .mp 0 0), (8, .iv (.int .u64 (numN l a g : Int))), (9, .iv (.int .i64 g))],
    [.var 56 [.iv (.int .i64 l.length), .iv (.sl 1 (ws l))]], 0⟩)
    (fun g => g ≤ w) (fun g => w - g) 0 (wk_by [0] ?_) (by omega) ?_
  · (simp (disch := first | exact dq | fail) only [go_sem])
    simp [numN_zero]
  rintro g hg
  (repeat' first
  | ((with_reducible first | refine Nx.go ?_ | refine rP ?_ | refine rR ?_ | refine And.intro ?_ ?_ | fail) <;> try (simp (disch := first | exact dq | fail) only [go_sem]))
  | ((with_reducible refine Sp.go ?_ ?_) <;> intro h <;> (try (simp (disch := first | exact dq | fail) only [go_sem] at h)) <;> try (simp (disch := first | exact dq | fail) only [go_sem, h])) | fail)
  all_goals (try omega)
  · rw [show g = w from by omega]
  all_goals
    obtain ⟨m, hm⟩ : ∃ m : Nat, min (64 - ((a : Int) + g) % 64) ((w : Int) - g) = m := ⟨_, (Int.toNat_of_nonneg (by omega)).symm⟩
    have e1 : (((a : Int) + g) / 64).toNat = (a + g) / 64 := by omega
    have e2 : (((a : Int) + g) % 64).toNat = (a + g) % 64 := by omega
    rw [hm] at h
    refine ⟨g + m, by omega, wk_by [0] ?_, by omega⟩
  · (simp (disch := first | exact dq | fail) only [go_sem, e1, e2, hm, part_full, part_mask l (a + g) m (by omega) (by omega), part_or l a g m (by omega) (by omega) (by omega)])
  · have e3 : m = 64 - (a + g) % 64 := by omega
    have h4 := part_or l a g (64 - (a + g) % 64) (by omega) (by omega) (by omega)
    (simp (disch := first | exact dq | fail) only [go_sem, e1, e2, hm, part_full, h4])
    rw [e3]

theorem Number_spec (l : List Bool) (a w : Int) (hl : l.length ≤ 100000000000) : PCalls Tryz.prog 49 [bitsV l, .int .i64 a, .int .i64 w] (.tup [.int .u64 (numV l a w : Int), .int .i64 (numE l a w)]) := by
  by_cases hok : 0 ≤ w ∧ w ≤ 64 ∧ 0 ≤ a ∧ a + w ≤ l.length
  · obtain ⟨h1, h2, h3, h4⟩ := hok
    have e : numE l a w = 0 := by unfold numE; rw [if_neg (by omega), if_neg (by omega)]
    have := Number_ok l a.toNat w.toNat hl (by omega) (by omega)
    rw [numV, if_pos e, e]
    rwa [Int.toNat_of_nonneg h1, Int.toNat_of_nonneg h3] at this
  · refine PCalls.of_aw Tryz.func49 rfl (by unfold Callable; kernel_rfl) (by kernel_rfl) (by simp [Tryz.ntmps49]) ?_; rw [Tryz.ntmps49, Tryz.results49]; (simp (disch := first | exact dq | fail) only [go_sem])
    (repeat' first
  | ((with_reducible first | refine Nx.go ?_ | refine rP ?_ | refine rR ?_ | refine And.intro ?_ ?_ | fail) <;> try (simp (disch := first | exact dq | fail) only [go_sem]))
  | ((with_reducible refine Sp.go ?_ ?_) <;> intro h <;> (try (simp (disch := first | exact dq | fail) only [go_sem] at h)) <;> try (simp (disch := first | exact dq | fail) only [go_sem, h])) | fail)
    all_goals (try omega)
    all_goals
      have key : ∀ e : Int, e ≠ 0 → numE l a w = e → some (IV.tup [.int .u64 0, .int .i64 e]) = some (IV.tup [.int .u64 (numV l a w : Int), .int .i64 (numE l a w)]) := by
        intro e he h1
        rw [numV, h1, if_neg he]; rfl
      refine key _ (by decide) ?_
      unfold numE
    · rw [if_pos (by omega)]
    · rw [if_neg (by omega), if_pos (by omega)]
    · rw [if_neg (by omega), if_pos (by omega)]
    · rw [if_neg (by omega), if_pos (by omega)]
    · rw [if_pos (by omega)]

def readOk (n : Int) (s : ByteArray) : Bool := decide (0 ≤ n ∧ n ≤ 8 * s.size) && ((bytesS (readB s n.toNat)).toList == s.toList)
def readV (n : Int) (s : ByteArray) : List Bool := if readOk n s = true then readB s n.toNat else []
def readE (n : Int) (s : ByteArray) : Int := if readOk n s = true then 0 else 10
theorem sq_bad : Sq (.tup [.agg [.int .i64 0, .sl 0 []], .int .i64 10]) (.tup [bitsV [], .int .i64 10]) := Sq.tup ⟨Sq.agg ⟨Sq.refl _, Sq.nil 0 1, trivial⟩, Sq.refl _, trivial⟩
end Go.Proofs.YtpjncojljamacaaGreat.AM
set_option linter.unusedVariables false
set_option linter.unusedSimpArgs false
set_option maxRecDepth 20000
namespace Go.Proofs.YtpjncojljamacaaGreat.AM
open Go Go.RowKit

attribute [go_sem] blsV
def isAt (a b : List Bool) (i : Nat) : Bool := decide (a.length = b.length) && decide (a.take i = b.take i)
theorem isAt_succ (a b : List Bool) (i : Nat) (ha : i < a.length) (hb : i < b.length) : isAt a b (i + 1) = (isAt a b i && (a.getD i false == b.getD i false)) := by
  unfold isAt
  rw [Bool.and_assoc]
  congr 1
  rw [List.take_add_one, List.take_add_one, List.getElem?_eq_getElem ha, List.getElem?_eq_getElem hb]
  have hl : (a.take i).length = (b.take i).length := by rw [List.length_take, List.length_take]; omega
  have e : (a.take i ++ (some a[i]).toList = b.take i ++ (some b[i]).toList) ↔ (a.take i = b.take i ∧ a[i] = b[i]) := by
    constructor
    · intro h
      have := List.append_inj h hl
      exact ⟨this.1, by simpa using this.2⟩
    · rintro ⟨h1, h2⟩; rw [h1, h2]
  rw [decide_eq_decide.2 e, Bool.decide_and]
  congr 1
  simp only [List.getD_eq_getElem?_getD, List.getElem?_eq_getElem ha, List.getElem?_eq_getElem hb, Option.getD_some]
  cases a[i] <;> cases b[i] <;> rfl
theorem isAt_end (a b : List Bool) (i : Nat) (h : a.length ≤ i ∨ b.length ≤ i) : isAt a b i = decide (a = b) := by
  unfold isAt
  by_cases hl : a.length = b.length
  · rw [List.take_of_length_le (by omega), List.take_of_length_le (by omega), decide_eq_true hl, Bool.true_and]
  · have : a ≠ b := fun e => hl (by rw [e])
    rw [decide_eq_false hl, decide_eq_false this, Bool.false_and]

end Go.Proofs.YtpjncojljamacaaGreat.AM
set_option linter.unusedVariables false
set_option linter.unusedSimpArgs false
set_option maxRecDepth 20000
namespace Go.Proofs.YtpjncojljamacaaGreat.AM
open Go Go.RowKit

def onesAt (l : List Bool) (a b : Int) : Int := (cnt l (min (max b (min (max a 0) l.length)) l.length).toNat : Int) - cnt l (min (max a 0) l.length).toNat
theorem Ones_at (l : List Bool) (a b : Int) (hl : l.length ≤ 100000000000) : PCalls Tryz.prog 45 [bitsV l, .int .i64 a, .int .i64 b] (.int .i64 (onesAt l a b)) := Ones_spec l a b hl
theorem onesAt_in (l : List Bool) {a b : Int} (h0 : 0 ≤ a) (h1 : a ≤ b) (h2 : b ≤ l.length) : onesAt l a b = (cnt l b.toNat : Int) - cnt l a.toNat := by
  unfold onesAt
  rw [show min (max b (min (max a 0) (l.length : Int))) (l.length : Int) = b from by omega, show min (max a 0) (l.length : Int) = a from by omega]
theorem onesAt_range (l : List Bool) (a b : Int) : 0 ≤ onesAt l a b ∧ onesAt l a b ≤ l.length := by
  unfold onesAt
  have h1 := cnt_le l (min (max b (min (max a 0) (l.length : Int))) (l.length : Int)).toNat
  have h2 := cnt_mono l (show (min (max a 0) (l.length : Int)).toNat ≤ (min (max b (min (max a 0) (l.length : Int))) (l.length : Int)).toNat by omega)
  omega
theorem cnt_full (l : List Bool) : cnt l l.length = l.count true := by rw [cnt, List.take_length]
theorem cnt_front (a b : List Bool) : cnt (a ++ b) a.length = a.count true := by rw [cnt, List.take_append_of_le_length (Nat.le_refl _), List.take_length]
theorem ones_all (l : List Bool) : onesAt l 0 l.length = (l.count true : Int) := by
  rw [onesAt_in l (by omega) (by omega) (by omega), Int.toNat_natCast, cnt_full, show ((0 : Int)).toNat = 0 from rfl, cnt_zero]; omega
theorem join1 (a b : List Bool) : onesAt (a ++ b) 0 ((a.length : Int) + b.length) = onesAt a 0 a.length + onesAt b 0 b.length := by
  have h := ones_all (a ++ b)
  rw [List.length_append, Int.natCast_add] at h
  rw [h, ones_all, ones_all, List.count_append]; omega
theorem join2 (a b : List Bool) : onesAt (a ++ b) a.length ((a.length : Int) + b.length) = onesAt b 0 b.length := by
  have h := cnt_full (a ++ b)
  rw [List.length_append, List.count_append] at h
  rw [onesAt_in (a ++ b) (by omega) (by omega) (by simp), ones_all, Int.toNat_natCast, cnt_front, show ((a.length : Int) + b.length).toNat = a.length + b.length from by omega, h]; omega

@[go_sem] theorem takeMapAll {α : Type} (l : List α) (f : α → IV) {n : Nat} (h : l.length ≤ n) : (l.map f).take n = l.map f := List.take_of_length_le (by simpa using h)

end Go.Proofs.YtpjncojljamacaaGreat.AM
set_option linter.unusedVariables false
set_option linter.unusedSimpArgs false
set_option maxRecDepth 20000
namespace Go.Proofs.YtpjncojljamacaaGreat.AM
open Go Go.RowKit

theorem cnt_succ (l : List Bool) (j : Nat) (h : j < l.length) : (cnt l (j + 1) : Int) = cnt l j + oneAt l j := by
  rw [cnt_add]
  unfold oneAt
  rw [if_pos ⟨by omega, by omega⟩, Int.toNat_natCast]
  have e : (l.drop j).take 1 = [l.getD j false] := by
    rw [List.drop_eq_getElem_cons h, List.take_succ_cons, List.take_zero]
    simp [List.getD, List.getElem?_eq_getElem h]
  rw [e]
  cases l.getD j false <;> simp
theorem ones_one (l : List Bool) (j : Nat) (h : j < l.length) : onesAt l j ((j : Int) + 1) = oneAt l j := by
  rw [onesAt_in l (by omega) (by omega) (by omega), Int.toNat_natCast, show ((j : Int) + 1).toNat = j + 1 from by omega, cnt_succ l j h]; omega
theorem ones_parts (l : List Bool) {k : Int} (h0 : 0 ≤ k) (h1 : k ≤ l.length) : onesAt l 0 k + onesAt l k l.length = (cnt l l.length : Int) := by
  rw [onesAt_in l (by omega) h0 h1, onesAt_in l h0 h1 (by omega), Int.toNat_natCast, show ((0 : Int)).toNat = 0 from rfl, cnt_zero]; omega
theorem ones_whole (l : List Bool) : onesAt l 0 l.length = (cnt l l.length : Int) := by
  rw [onesAt_in l (by omega) (by omega) (by omega), Int.toNat_natCast, show ((0 : Int)).toNat = 0 from rfl, cnt_zero]; omega
theorem ones_none (l : List Bool) {k : Int} (h0 : 0 ≤ k) (h1 : k ≤ l.length) : onesAt l k k = 0 := by
  rw [onesAt_in l h0 (by omega) h1]; omega
theorem tmod_range (a : Int) (n : Nat) : -(n : Int) ≤ a.tmod ((n : Int) + 1) ∧ a.tmod ((n : Int) + 1) ≤ n := by
  have h1 := Int.tmod_lt_of_pos a (show (0 : Int) < (n : Int) + 1 by omega)
  have h2 := Int.lt_tmod_of_pos a (show (0 : Int) < (n : Int) + 1 by omega)
  omega

end Go.Proofs.YtpjncojljamacaaGreat.AM
set_option linter.unusedVariables false
set_option linter.unusedSimpArgs false
set_option maxRecDepth 20000
namespace Go.Proofs.YtpjncojljamacaaGreat.AM
open Go Go.RowKit

theorem byteAt_over (p : List Bool) (k : Nat) (h : p.length ≤ 8 * k) : byteAt p k = 0 := by
  unfold byteAt; rw [List.drop_of_length_le h]; rfl
theorem byteAt_snoc (p : List Bool) (b : Bool) (k : Nat) : byteAt (p ++ [b]) k = if p.length / 8 = k then byteAt p k + 2 ^ (p.length % 8) * b.toNat else byteAt p k := by
  by_cases h : 8 * k ≤ p.length
  · unfold byteAt
    rw [List.drop_append_of_le_length h]
    split
    · rename_i h1
      rw [List.take_of_length_le (l := p.drop (8 * k) ++ [b]) (by simp; omega), List.take_of_length_le (l := p.drop (8 * k)) (by simp; omega), natOf_append]
      rw [List.length_drop, show p.length - 8 * k = p.length % 8 from by omega]
      simp [natOf]
    · rename_i h1
      rw [List.take_append_of_le_length (by simp; omega)]
  · rw [if_neg (by omega), byteAt_over p k (by omega)]
    by_cases h1 : p.length + 1 ≤ 8 * k
    · rw [byteAt_over _ _ (by simpa using h1)]
    · omega
theorem byteAt_part (p : List Bool) : byteAt p (p.length / 8) < 2 ^ (p.length % 8) := by
  have := natOf_lt ((p.drop (8 * (p.length / 8))).take 8)
  rwa [List.length_take, List.length_drop, show min 8 (p.length - 8 * (p.length / 8)) = p.length % 8 from by omega] at this
def rowB (nb : Nat) (p : List Bool) : List IV := (List.range nb).map fun k => .int .u8 (byteAt p k)
theorem rowB_len (nb : Nat) (p : List Bool) : (rowB nb p).length = nb := by simp [rowB]
theorem rowB_get {nb k : Nat} (p : List Bool) (h : k < nb) : (rowB nb p)[k]? = some (.int .u8 (byteAt p k)) := by
  rw [rowB, List.getElem?_map, List.getElem?_range h]; rfl
theorem rowB_false (nb : Nat) (p : List Bool) : rowB nb (p ++ [false]) = rowB nb p := by
  unfold rowB
  apply List.map_congr_left
  intro k _
  rw [byteAt_snoc]; split <;> simp
theorem rowB_true (nb : Nat) (p : List Bool) (h : p.length / 8 < nb) : rowB nb (p ++ [true]) = (rowB nb p).set (p.length / 8) (.int .u8 ((byteAt p (p.length / 8) + 2 ^ (p.length % 8) : Nat) : Int)) := by
  apply List.ext_getElem?
  intro k
  by_cases hk : k < nb
  · rw [rowB_get _ hk, List.getElem?_set, byteAt_snoc]
    by_cases e : p.length / 8 = k
    · rw [if_pos e, if_pos e, if_pos (by rw [rowB_len]; omega), e]; simp
    · rw [if_neg e, if_neg e, rowB_get _ hk]
  · rw [List.getElem?_eq_none (by rw [rowB_len]; omega), List.getElem?_eq_none (by rw [List.length_set, rowB_len]; omega)]
theorem rowB_nil (nb : Nat) : rowB nb [] = List.replicate nb (.int .u8 0) := by
  unfold rowB
  rw [List.eq_replicate_iff]
  refine ⟨by simp, fun b hb => ?_⟩
  obtain ⟨k, _, rfl⟩ := List.mem_map.1 hb
  rw [byteAt_over [] k (by simp)]; rfl
theorem rowB_full (l : List Bool) : rowB ((l.length + 7) / 8) l = bytesI l := rfl
theorem add_byte (p : List Bool) : IntKind.u8.wrap ((byteAt p (p.length / 8) : Int) + IntKind.u8.wrap (1 * 2 ^ min ((p.length : Int) % 8).toNat 8)) = ((byteAt p (p.length / 8) + 2 ^ (p.length % 8) : Nat) : Int) := by
  have h1 := byteAt_part p
  have h2 : (2 : Nat) ^ (p.length % 8) ≤ 2 ^ 7 := Nat.pow_le_pow_right (by decide) (by omega)
  rw [show ((p.length : Int) % 8).toNat = p.length % 8 from by omega, Nat.min_eq_left (by omega), Int.one_mul]
  rw [show ((2 : Int) ^ (p.length % 8)) = ((2 ^ (p.length % 8) : Nat) : Int) from by simp]
  rw [show IntKind.u8.wrap ((2 ^ (p.length % 8) : Nat) : Int) = ((2 ^ (p.length % 8) : Nat) : Int) from wrapB ⟨by omega, by omega⟩, wrapB ⟨by omega, by omega⟩]; omega

theorem ba_loop (b : ByteArray) : ∀ (n i : Nat) (r : List UInt8), b.size - i = n → ByteArray.toList.loop b i r = r.reverse ++ b.data.toList.drop i := by
  have hs : b.data.toList.length = b.size := Array.length_toList
  intro n
  induction n with
  | zero =>
    intro i r h
    unfold ByteArray.toList.loop
    rw [if_neg (by omega), List.drop_of_length_le (by omega), List.append_nil]
  | succ n ih =>
    intro i r h
    unfold ByteArray.toList.loop
    have hi : i < b.data.size := by have : b.data.size = b.size := rfl; omega
    have hg : b.get! i = b.data.toList[i]'(by omega) := by
      show b.data[i]! = _
      rw [getElem!_pos b.data i hi, Array.getElem_toList]
    rw [if_pos (by omega), ih (i + 1) _ (by omega), List.drop_eq_getElem_cons (show i < b.data.toList.length by omega), hg]
    simp only [List.reverse_cons, List.append_assoc, List.singleton_append]
theorem ba_toList (b : ByteArray) : b.toList = b.data.toList := by
  unfold ByteArray.toList
  rw [ba_loop b _ 0 [] rfl]; rfl
theorem readOk_size {n : Int} {s : ByteArray} (h : readOk n s = true) : (s.size : Int) = (n + 7) / 8 := by
  unfold readOk at h
  simp only [Bool.and_eq_true, decide_eq_true_eq, beq_iff_eq] at h
  obtain ⟨⟨h0, h1⟩, h2⟩ := h
  have := congrArg List.length h2
  rw [ba_toList, ba_toList, Array.length_toList, Array.length_toList] at this
  have e : (bytesS (readB s n.toNat)).data.size = (n.toNat + 7) / 8 := by simp [bytesS, readB_len]
  rw [e] at this
  have e2 : s.data.size = s.size := rfl
  omega

end Go.Proofs.YtpjncojljamacaaGreat.AM
set_option linter.unusedVariables false
set_option linter.unusedSimpArgs false
set_option maxRecDepth 20000
namespace Go.Proofs.YtpjncojljamacaaGreat.AM
open Go Go.RowKit

theorem oneAt_get (l : List Bool) {i : Int} (h0 : 0 ≤ i) (h1 : i < l.length) : (oneAt l i == 1) = l.getD i.toNat false := by
  rw [oneAt_eq, decide_eq_true h0, Bool.true_and]
theorem onesAt_step (l : List Bool) (a b : Int) (j : Nat) (h : j < l.length) : onesAt l a (min b ((j : Int) + 1)) = onesAt l a (min b j) + (if a ≤ j ∧ (j : Int) < b then oneAt l j else 0) := by
  have hs := cnt_succ l j h
  unfold onesAt
  split
  · rename_i hc
    rw [show (min (max (min b ((j : Int) + 1)) (min (max a 0) (l.length : Int))) (l.length : Int)).toNat = j + 1 from by omega, show (min (max (min b (j : Int)) (min (max a 0) (l.length : Int))) (l.length : Int)).toNat = j from by omega]
    omega
  · rename_i hc
    rw [show (min (max (min b ((j : Int) + 1)) (min (max a 0) (l.length : Int))) (l.length : Int)).toNat = (min (max (min b (j : Int)) (min (max a 0) (l.length : Int))) (l.length : Int)).toNat from by omega]
    omega
theorem onesAt_zero (l : List Bool) (a b : Int) : onesAt l a (min b 0) = 0 := by
  unfold onesAt
  rw [show (min (max (min b 0) (min (max a 0) (l.length : Int))) (l.length : Int)) = min (max a 0) (l.length : Int) from by omega]; omega
theorem onesAt_done (l : List Bool) (a b : Int) : onesAt l a (min b l.length) = onesAt l a b := by
  unfold onesAt
  rw [show (min (max (min b (l.length : Int)) (min (max a 0) (l.length : Int))) (l.length : Int)) = min (max b (min (max a 0) (l.length : Int))) (l.length : Int) from by omega]

theorem wrapU_nat (n : Nat) : IntKind.u64.wrap (n : Int) = ((n % 18446744073709551616 : Nat) : Int) := by
  show (if (false && decide ((n : Int) % (2 ^ 64 : Int) ≥ (2 ^ (64 - 1) : Int))) = true then (n : Int) % (2 ^ 64 : Int) - (2 ^ 64 : Int) else (n : Int) % (2 ^ 64 : Int)) = _
  simp only [Bool.false_and, Bool.false_eq_true, if_false]
  omega
theorem w_step (i : Nat) : IntKind.u64.wrap (((2 ^ i % 18446744073709551616 : Nat) : Int) * 2) = ((2 ^ (i + 1) % 18446744073709551616 : Nat) : Int) := by
  rw [show ((2 ^ i % 18446744073709551616 : Nat) : Int) * 2 = ((2 ^ i % 18446744073709551616 * 2 : Nat) : Int) from by omega, wrapU_nat, Nat.pow_succ, Nat.mod_mul_mod]
theorem numN_one (l : List Bool) (i : Nat) (h : i < l.length) : numN l i 1 = (l.getD i false).toNat := by
  unfold numN
  have e : (l.drop i).take 1 = [l.getD i false] := by
    rw [List.drop_eq_getElem_cons h, List.take_succ_cons, List.take_zero]
    simp [List.getD, List.getElem?_eq_getElem h]
  rw [e]; simp [natOf]
theorem n_bit (l : List Bool) (a i : Nat) (h : a + i < l.length) : numN l a (i + 1) = numN l a i + 2 ^ i * (l.getD (a + i) false).toNat := by
  rw [numN_add l a i 1 (by omega), numN_one l (a + i) h]
theorem n_step (l : List Bool) (a i : Nat) (hi : i < 64) (h : a + i < l.length) (hb : l.getD (a + i) false = true) : IntKind.u64.wrap ((numN l a i : Int) + ((2 ^ i % 18446744073709551616 : Nat) : Int)) = (numN l a (i + 1) : Int) := by
  have h1 := n_bit l a i h
  rw [hb] at h1
  have h2 := numN_lt l a (i + 1)
  have h3 : (2 : Nat) ^ (i + 1) ≤ 2 ^ 64 := Nat.pow_le_pow_right (by decide) (by omega)
  have h4 := two_pow_lt64 hi
  rw [Nat.mod_eq_of_lt h4, ← Int.natCast_add, wrap64N _ (by simp at h1; omega), h1]; simp
end Go.Proofs.YtpjncojljamacaaGreat.AM
