
/- Chapter 1: rows of bits. No condition but lengths that fit. -/
import Derived.Test.YtpjncojljamacaaGreatT
import Derived.Test.YtpjncojljamacaaGreatAC
import Derived.Lib.BitFns
import Derived.KernelRfl
set_option linter.unusedVariables false
set_option linter.unusedSimpArgs false
set_option maxRecDepth 20000
namespace Go.Proofs.YtpjncojljamacaaGreat.AM
open Go Go.RowKit

def bitsV (l : List Bool) : IV := .agg [.int .i64 l.length, .sl 1 (ws l)]
def blsV (l : List Bool) : IV := .sl 1 (l.map .bool)
def bldM (l : List Bool) : List MO := [.var 68 [.iv (.int .i64 l.length), .msl 1 0 ((l.length + 63) / 64) ((l.length + 63) / 64)], .row true 69 1 (ws l)]
attribute [go_sem] ws_len ws_get bldM
@[go_sem] theorem fold_bitsV (l : List Bool) {n : Int} (h : n = (l.length : Int)) : IV.agg [.int .i64 n, .sl 1 (ws l)] = bitsV l := by rw [h]; rfl
@[go_sem] theorem cells_bitsV (l : List Bool) : AV.cells (.iv (bitsV l)) = some [.iv (.int .i64 l.length), .iv (.sl 1 (ws l))] := rfl
@[go_sem] theorem icells_bitsV (l : List Bool) : IV.cells (bitsV l) = [.int .i64 l.length, .sl 1 (ws l)] := rfl
@[go_sem] theorem fits_bitsV (l : List Bool) : IV.fits 2 (bitsV l) = true := rfl
@[go_sem ↓] theorem toIVF_bitsV (M : List MO) (l : List Bool) : toIVF M (.iv (bitsV l)) = some (bitsV l, M) := rfl
@[go_sem] theorem fieldV_bitsV (ag : Option Nat) (off : Nat) (M : List MO) (l : List Bool) : fieldV ag off (.iv (bitsV l)) M = (elemPart ag (bitsV l) off).map fun v => (.p, .iv v, M) := rfl
@[go_sem] theorem wsAppGet (l : List Bool) (x : IV) {i : Nat} (h : i = (l.length + 63) / 64) : (ws l ++ [x])[i]? = some x := by
  rw [List.getElem?_append_right (by rw [ws_len]; omega), ws_len, h]; simp

@[go_sem] theorem wsTake (l : List Bool) {n : Nat} (h : (l.length + 63) / 64 ≤ n) : (ws l).take n = ws l := List.take_of_length_le (by rw [ws_len]; exact h)
@[go_sem] theorem replDrop (x : IV) {n k : Nat} (h : n ≤ k) : (List.replicate n x).drop k = [] := List.drop_of_length_le (by simpa using h)
@[go_sem] theorem getPB {α : Type} (p q : List α) (b : α) (f : α → IV) : ((p ++ b :: q).map f)[p.length]? = some (f b) := by simp
@[go_sem] theorem getDB {α : Type} (p q : List α) (b d : α) : (p ++ b :: q).getD p.length d = b := by simp [List.getD]
attribute [go_sem] Nat.min_self Nat.le_refl

theorem New_spec : MCalls Tryz.prog 24 [] [] (.mp 0 0) (bldM []) := by
  refine MCalls.of_aw Tryz.func24 rfl (by unfold Callable; kernel_rfl) (by kernel_rfl) (by simp [Tryz.ntmps24]) (by (simp (disch := first | exact dq | fail) only [go_sem])) ?_; rw [Tryz.ntmps24, Tryz.results24]; (simp (disch := first | exact dq | fail) only [go_sem])
  (repeat' first
  | ((with_reducible first | refine Nx.go ?_ | refine rP ?_ | refine rR ?_ | refine And.intro ?_ ?_ | fail) <;> try (simp (disch := first | exact dq | fail) only [go_sem]))
  | ((with_reducible refine Sp.go ?_ ?_) <;> intro h <;> (try (simp (disch := first | exact dq | fail) only [go_sem] at h)) <;> try (simp (disch := first | exact dq | fail) only [go_sem, h])) | fail)
  refine fin_wk (wk_ownc 69 1 0 1 rfl rfl) (fin_k [0, 1] ?_)
  (simp (disch := first | exact dq | fail) only [go_sem])
  simp [ws_nil]

theorem Add_spec (l : List Bool) (b : Bool) (hl : l.length ≤ 100000000000) : MCalls Tryz.prog 25 [.mp 0 0, .iv (.bool b)] (bldM l) (.iv (.int .i64 (l.length + 1))) (bldM (l ++ [b])) := by
  refine MCalls.of_aw Tryz.func25 rfl (by unfold Callable; kernel_rfl) (by kernel_rfl) (by simp [Tryz.ntmps25]) (by (simp (disch := first | exact dq | fail) only [go_sem])) ?_; rw [Tryz.ntmps25, Tryz.results25]; (simp (disch := first | exact dq | fail) only [go_sem])
  (repeat' first
  | ((with_reducible first | refine Nx.go ?_ | refine rP ?_ | refine rR ?_ | refine And.intro ?_ ?_ | fail) <;> try (simp (disch := first | exact dq | fail) only [go_sem]))
  | ((with_reducible refine Sp.go ?_ ?_) <;> intro h <;> (try (simp (disch := first | exact dq | fail) only [go_sem] at h)) <;> try (simp (disch := first | exact dq | fail) only [go_sem, h])) | fail)
  all_goals (try omega)
  all_goals (refine fin_k [0, 1] ?_; (simp (disch := first | exact dq | fail) only [go_sem]))
  · subst h; rw [ws_add_new1 l (by omega), show (l.length + 1 + 63) / 64 = (l.length + 63) / 64 + 1 from by omega]; exact ⟨rfl, rfl⟩
  · subst h; rw [ws_snoc_new l false (by omega), show (l.length + 1 + 63) / 64 = (l.length + 63) / 64 + 1 from by omega]; exact ⟨rfl, rfl⟩
  · subst h; rw [ws_add_old1 l (by omega), show (l.length + 1 + 63) / 64 = (l.length + 63) / 64 from by omega]; exact ⟨rfl, rfl⟩
  · subst h; rw [ws_add_old0 l (by omega), show (l.length + 1 + 63) / 64 = (l.length + 63) / 64 from by omega]; exact ⟨rfl, rfl⟩

theorem Bits_spec (l : List Bool) (hl : l.length ≤ 100000000000) : MCalls Tryz.prog 27 [.mp 0 0] (bldM l) (.iv (bitsV l)) (bldM l) := by
  refine MCalls.of_aw Tryz.func27 rfl (by unfold Callable; kernel_rfl) (by kernel_rfl) (by simp [Tryz.ntmps27]) (by (simp (disch := first | exact dq | fail) only [go_sem])) ?_; rw [Tryz.ntmps27, Tryz.results27]; (simp (disch := first | exact dq | fail) only [go_sem])
  (repeat' first
  | ((with_reducible first | refine Nx.go ?_ | refine rP ?_ | refine rR ?_ | refine And.intro ?_ ?_ | fail) <;> try (simp (disch := first | exact dq | fail) only [go_sem]))
  | ((with_reducible refine Sp.go ?_ ?_) <;> intro h <;> (try (simp (disch := first | exact dq | fail) only [go_sem] at h)) <;> try (simp (disch := first | exact dq | fail) only [go_sem, h])) | fail)
  all_goals (try omega)
  refine fin_f [0, 1] ?_
  (simp (disch := first | exact dq | fail) only [go_sem])

end Go.Proofs.YtpjncojljamacaaGreat.AM
set_option linter.unusedVariables false
set_option linter.unusedSimpArgs false
set_option maxRecDepth 20000
namespace Go.Proofs.YtpjncojljamacaaGreat.AM
open Go Go.RowKit

theorem Len_spec (l : List Bool) : PCalls Tryz.prog 44 [bitsV l] (.int .i64 l.length) := by
  refine PCalls.of_aw Tryz.func44 rfl (by unfold Callable; kernel_rfl) (by kernel_rfl) (by simp [Tryz.ntmps44]) ?_; rw [Tryz.ntmps44, Tryz.results44]; (simp (disch := first | exact dq | fail) only [go_sem])
  (repeat' first
  | ((with_reducible first | refine Nx.go ?_ | refine rP ?_ | refine rR ?_ | refine And.intro ?_ ?_ | fail) <;> try (simp (disch := first | exact dq | fail) only [go_sem]))
  | ((with_reducible refine Sp.go ?_ ?_) <;> intro h <;> (try (simp (disch := first | exact dq | fail) only [go_sem] at h)) <;> try (simp (disch := first | exact dq | fail) only [go_sem, h])) | fail)

theorem One_spec (l : List Bool) (i : Int) (hl : l.length ≤ 100000000000) : PCalls Tryz.prog 53 [bitsV l, .int .i64 i] (.int .i64 (oneAt l i)) := by
  refine PCalls.of_aw Tryz.func53 rfl (by unfold Callable; kernel_rfl) (by kernel_rfl) (by simp [Tryz.ntmps53]) ?_; rw [Tryz.ntmps53, Tryz.results53]; (simp (disch := first | exact dq | fail) only [go_sem])
  (repeat' first
  | ((with_reducible first | refine Nx.go ?_ | refine rP ?_ | refine rR ?_ | refine And.intro ?_ ?_ | fail) <;> try (simp (disch := first | exact dq | fail) only [go_sem]))
  | ((with_reducible refine Sp.go ?_ ?_) <;> intro h <;> (try (simp (disch := first | exact dq | fail) only [go_sem] at h)) <;> try (simp (disch := first | exact dq | fail) only [go_sem, h])) | fail)
  all_goals (try omega)
  · rw [oneAt_out l (by omega)]
  · rw [oneAt_word l (by omega) (by omega)]
  · rw [oneAt_out l (by omega)]

theorem OnesCount64_spec (x : Nat) (hx : x < 18446744073709551616) : PCalls Tryz.prog 91 [.int .u64 (x : Int)] (.int .i64 (pc 64 x : Int)) := by
  refine PCalls.of_aw Tryz.func91 rfl (by unfold Callable; kernel_rfl) (by kernel_rfl) (by simp [Tryz.ntmps91]) ?_; rw [Tryz.ntmps91, Tryz.results91]; (simp (disch := first | exact dq | fail) only [go_sem])
  (repeat' first
  | ((with_reducible first | refine Nx.go ?_ | refine rP ?_ | refine rR ?_ | refine And.intro ?_ ?_ | fail) <;> try (simp (disch := first | exact dq | fail) only [go_sem, w_o1 x hx, w_o2 x, w_o3 x, w_o4 x hx, w_o5 x hx, w_o6 x hx, w_o7 x hx]))
  | ((with_reducible refine Sp.go ?_ ?_) <;> intro h <;> (try (simp (disch := first | exact dq | fail) only [go_sem] at h)) <;> try (simp (disch := first | exact dq | fail) only [go_sem, h, w_o1 x hx, w_o2 x, w_o3 x, w_o4 x hx, w_o5 x hx, w_o6 x hx, w_o7 x hx])) | fail)

theorem ahead1_spec (x : Nat) (n : Int) (hx : x < 18446744073709551616) (hn : 0 ≤ n ∧ n ≤ 100000000000) : MCalls Tryz.prog 90 [.iv (.int .u64 (x : Int)), .mp 0 0] [.var 3 [.iv (.int .i64 n)]] (.tup []) [.var 3 [.iv (.int .i64 (n + pc 64 x))]] := by
  refine MCalls.of_aw Tryz.func90 rfl (by unfold Callable; kernel_rfl) (by kernel_rfl) (by simp [Tryz.ntmps90]) (by (simp (disch := first | exact dq | fail) only [go_sem])) ?_; rw [Tryz.ntmps90, Tryz.results90]; (simp (disch := first | exact dq | fail) only [go_sem])
  have hpc := pc_le x hx
  (repeat' first
  | ((with_reducible first | refine Nx.go ?_ | refine rP ?_ | refine rR ?_ | refine And.intro ?_ ?_ | fail) <;> try (simp (disch := first | exact dq | fail) only [go_sem]))
  | ((with_reducible refine Sp.go ?_ ?_) <;> intro h <;> (try (simp (disch := first | exact dq | fail) only [go_sem] at h)) <;> try (simp (disch := first | exact dq | fail) only [go_sem, h])) | fail)
  all_goals (try omega)
  ((with_reducible first | apply left_callf | apply leftD_callf | apply leftF_callf); (· with_reducible rfl); (· (simp (disch := first | exact dq | fail) only [go_sem]) <;> rfl); (· exact OnesCount64_spec x hx); try (simp (disch := first | exact dq | fail) only [go_sem]))
  (repeat' first
  | ((with_reducible first | refine Nx.go ?_ | refine rP ?_ | refine rR ?_ | refine And.intro ?_ ?_ | fail) <;> try (simp (disch := first | exact dq | fail) only [go_sem]))
  | ((with_reducible refine Sp.go ?_ ?_) <;> intro h <;> (try (simp (disch := first | exact dq | fail) only [go_sem] at h)) <;> try (simp (disch := first | exact dq | fail) only [go_sem, h])) | fail)
  refine fin_k [0] ?_
  (simp (disch := first | exact dq | fail) only [go_sem])

theorem ahead_spec (l : List Bool) (i : Int) (hl : l.length ≤ 100000000000) (hi : 0 ≤ i ∧ i ≤ l.length) : PCalls Tryz.prog 73 [bitsV l, .int .i64 i] (.int .i64 (cnt l i.toNat)) := by
  refine PCalls.of_aw Tryz.func73 rfl (by unfold Callable; kernel_rfl) (by kernel_rfl) (by simp [Tryz.ntmps73]) ?_; rw [Tryz.ntmps73, Tryz.results73]; (simp (disch := first | exact dq | fail) only [go_sem])
  (repeat' first
  | ((with_reducible first | refine Nx.go ?_ | refine rP ?_ | refine rR ?_ | refine And.intro ?_ ?_ | fail) <;> try (simp (disch := first | exact dq | fail) only [go_sem]))
  | ((with_reducible refine Sp.go ?_ ?_) <;> intro h <;> (try (simp (disch := first | exact dq | fail) only [go_sem] at h)) <;> try (simp (disch := first | exact dq | fail) only [go_sem, h])) | fail)
  all_goals (try omega)
  refine aw_loop (α := Nat) (fun k => ⟨41, sl [(1, .iv (.int .i64 i)), (2, .mp 0 0), (5, .mp 1 0), (6, .fn 90 [.mp 1 0]), (14, .iv (.sl 1 ((ws l).take (i / 64).toNat))), (15, .iv (.int .i64 (i / 64))), (16, .iv (.int .i64 k))],
      [.var 56 [.iv (.int .i64 l.length), .iv (.sl 1 (ws l))], .var 3 [.iv (.int .i64 (cnt l (64 * k)))]], 0⟩)
    (fun k => (k : Int) ≤ i / 64) (fun k => (i / 64).toNat - k) 0 (wk_by [0, 1] ?_) (by omega) ?_
  · (simp (disch := first | exact dq | fail) only [go_sem])
    refine ⟨?_, ?_⟩
    · rw [show cnt l (64 * 0) = 0 from cnt_zero l]; rfl
    · congr 2; omega
  rintro k hk
  have hc := cnt_le l (64 * k)
  (repeat' first
  | ((with_reducible first | refine Nx.go ?_ | refine rW ?_ | refine And.intro ?_ ?_ | fail) <;> try (simp (disch := first | exact dq | fail) only [go_sem]))
  | ((with_reducible refine Sp.go ?_ ?_) <;> intro h <;> (try (simp (disch := first | exact dq | fail) only [go_sem] at h)) <;> try (simp (disch := first | exact dq | fail) only [go_sem, h])) | fail)
  all_goals (try omega)
  · ((first | with_reducible refine left_callMs [1] (ahead1_spec (wordAt l k) (cnt l (64 * k)) (wordAt_lt l k) (by omega)) ?_ ?_ | with_reducible refine leftD_callMs [1] rfl (ahead1_spec (wordAt l k) (cnt l (64 * k)) (wordAt_lt l k) (by omega)) ?_ ?_ | with_reducible refine leftD_callRs [1] (by decide) (ahead1_spec (wordAt l k) (cnt l (64 * k)) (wordAt_lt l k) (by omega)) ?_ ?_); (· (simp (disch := first | exact dq | fail) only [go_sem])); try (simp (disch := first | exact dq | fail) only [go_sem]))
    (repeat' first
  | ((with_reducible first | refine Nx.go ?_ | refine rP ?_ | refine rR ?_ | refine And.intro ?_ ?_ | fail) <;> try (simp (disch := first | exact dq | fail) only [go_sem]))
  | ((with_reducible refine Sp.go ?_ ?_) <;> intro h <;> (try (simp (disch := first | exact dq | fail) only [go_sem] at h)) <;> try (simp (disch := first | exact dq | fail) only [go_sem, h])) | fail)
    refine ⟨k + 1, by omega, wk_by [0, 1] ?_, by omega⟩
    (simp (disch := first | exact dq | fail) only [go_sem])
    rw [cnt_word]; rfl
  · have ek : (i / 64).toNat = k := by omega
    have em : (i / 64).toNat * 64 + (i % 64).toNat = i.toNat := by omega
    (simp (disch := first | exact dq | fail) only [go_sem, mask_word (wordAt l (i / 64).toNat) (wordAt_lt l (i / 64).toNat) (r := i % 64) (by omega) (by omega)])
    ((first | with_reducible refine left_callMs [1] (ahead1_spec (wordAt l (i / 64).toNat % 2 ^ (i % 64).toNat) (cnt l (64 * k)) (Nat.lt_of_le_of_lt (Nat.mod_le _ _) (wordAt_lt l _)) (by omega)) ?_ ?_ | with_reducible refine leftD_callMs [1] rfl (ahead1_spec (wordAt l (i / 64).toNat % 2 ^ (i % 64).toNat) (cnt l (64 * k)) (Nat.lt_of_le_of_lt (Nat.mod_le _ _) (wordAt_lt l _)) (by omega)) ?_ ?_ | with_reducible refine leftD_callRs [1] (by decide) (ahead1_spec (wordAt l (i / 64).toNat % 2 ^ (i % 64).toNat) (cnt l (64 * k)) (Nat.lt_of_le_of_lt (Nat.mod_le _ _) (wordAt_lt l _)) (by omega)) ?_ ?_); (· (simp (disch := first | exact dq | fail) only [go_sem])); try (simp (disch := first | exact dq | fail) only [go_sem]))
    (repeat' first
  | ((with_reducible first | refine Nx.go ?_ | refine rP ?_ | refine rR ?_ | refine And.intro ?_ ?_ | fail) <;> try (simp (disch := first | exact dq | fail) only [go_sem]))
  | ((with_reducible refine Sp.go ?_ ?_) <;> intro h <;> (try (simp (disch := first | exact dq | fail) only [go_sem] at h)) <;> try (simp (disch := first | exact dq | fail) only [go_sem, h])) | fail)
    have := cnt_part l k (i % 64).toNat (by omega)
    rw [show 64 * k + (i % 64).toNat = i.toNat from by omega] at this
    rw [this, ek]; rfl
  · rw [show 64 * k = i.toNat from by omega]

theorem Ones_spec (l : List Bool) (a b : Int) (hl : l.length ≤ 100000000000) : PCalls Tryz.prog 45 [bitsV l, .int .i64 a, .int .i64 b] (.int .i64 ((cnt l (min (max b (min (max a 0) l.length)) l.length).toNat : Int) - cnt l (min (max a 0) l.length).toNat)) := by
  refine PCalls.of_aw Tryz.func45 rfl (by unfold Callable; kernel_rfl) (by kernel_rfl) (by simp [Tryz.ntmps45]) ?_; rw [Tryz.ntmps45, Tryz.results45]; (simp (disch := first | exact dq | fail) only [go_sem])
  have h1 := cnt_le l (min (max b (min (max a 0) l.length)) l.length).toNat
  have h2 := cnt_le l (min (max a 0) l.length).toNat
  (repeat' first
  | ((with_reducible first | refine Nx.go ?_ | refine rP ?_ | refine rR ?_ | refine And.intro ?_ ?_ | fail) <;> try (simp (disch := first | exact dq | fail) only [go_sem]))
  | ((with_reducible refine Sp.go ?_ ?_) <;> intro h <;> (try (simp (disch := first | exact dq | fail) only [go_sem] at h)) <;> try (simp (disch := first | exact dq | fail) only [go_sem, h])) | fail)
  all_goals (try omega)
  ((with_reducible first | apply left_callf | apply leftD_callf | apply leftF_callf); (· with_reducible rfl); (· (simp (disch := first | exact dq | fail) only [go_sem]) <;> rfl); (· exact ahead_spec l _ hl (by omega)); try (simp (disch := first | exact dq | fail) only [go_sem]))
  ((with_reducible first | apply left_callf | apply leftD_callf | apply leftF_callf); (· with_reducible rfl); (· (simp (disch := first | exact dq | fail) only [go_sem]) <;> rfl); (· exact ahead_spec l _ hl (by omega)); try (simp (disch := first | exact dq | fail) only [go_sem]))
  (repeat' first
  | ((with_reducible first | refine Nx.go ?_ | refine rP ?_ | refine rR ?_ | refine And.intro ?_ ?_ | fail) <;> try (simp (disch := first | exact dq | fail) only [go_sem]))
  | ((with_reducible refine Sp.go ?_ ?_) <;> intro h <;> (try (simp (disch := first | exact dq | fail) only [go_sem] at h)) <;> try (simp (disch := first | exact dq | fail) only [go_sem, h])) | fail)
end Go.Proofs.YtpjncojljamacaaGreat.AM
set_option linter.unusedVariables false
set_option linter.unusedSimpArgs false
set_option maxRecDepth 20000
namespace Go.Proofs.YtpjncojljamacaaGreat.AM
open Go Go.RowKit

theorem tab_bit {L : List UInt8} (hL : (List.range 256).all (fun j => (L.getD j 0).toNat == Lib.bitLen j) = true) (j : Nat) (hj : j < 256) : (L.getD j 0).toNat = Lib.bitLen j := by
  have := List.all_eq_true.1 hL j (List.mem_range.2 hj)
  simpa using this
theorem shr32 (a : Nat) : (a : Int).fdiv (2 ^ min 32 64) = ((a / 4294967296 : Nat) : Int) := shrK a 32 (by decide)
theorem shr16 (a : Nat) : (a : Int).fdiv (2 ^ min 16 64) = ((a / 65536 : Nat) : Int) := shrK a 16 (by decide)
theorem shr8 (a : Nat) : (a : Int).fdiv (2 ^ min 8 64) = ((a / 256 : Nat) : Int) := shrK a 8 (by decide)
theorem len_fin (c : Int) (k b : Nat) (hc : c = (k : Int)) (hb : b ≤ 8) (hk : k ≤ 56) : IntKind.i64.wrap (c + IntKind.i64.wrap (b : Int)) = ((k + b : Nat) : Int) := by
  rw [show IntKind.i64.wrap (b : Int) = (b : Int) from wrapS ⟨by omega, by omega⟩, wrapS ⟨by omega, by omega⟩]; omega
theorem lt_size (L : List UInt8) (n : Nat) (h : n < 256) (hs : L.length = 256) : (n : Int) < ((⟨L.toArray⟩ : ByteArray).size : Int) := by
  show (n : Int) < ((L.toArray.size : Nat) : Int)
  rw [List.size_toArray, hs]; omega
theorem len_last {L : List UInt8} {c : Int} (k n : Nat) (x : Nat) (hL : (List.range 256).all (fun j => (L.getD j 0).toNat == Lib.bitLen j) = true) (hn : n < 256) (hc : c = (k : Int)) (hk : k ≤ 56) (hx : Lib.bitLen x = k + Lib.bitLen n) :
    some (IV.int .i64 (IntKind.i64.wrap (c + IntKind.i64.wrap ((L.getD n 0).toNat : Int)))) = some (IV.int .i64 (Lib.bitLen x : Int)) := by
  rw [tab_bit hL n hn, len_fin c k _ hc (Lib.bitLen_le n 8 (by decide) hn) hk, hx]
theorem len_last0 {L : List UInt8} (n : Nat) (x : Nat) (hL : (List.range 256).all (fun j => (L.getD j 0).toNat == Lib.bitLen j) = true) (hn : n < 256) (hx : Lib.bitLen x = Lib.bitLen n) :
    some (IV.int .i64 (IntKind.i64.wrap (IntKind.i64.wrap ((L.getD n 0).toNat : Int)))) = some (IV.int .i64 (Lib.bitLen x : Int)) := by
  have := Lib.bitLen_le n 8 (by decide) hn
  rw [tab_bit hL n hn, wrapS (x := (Lib.bitLen n : Int)) ⟨by omega, by omega⟩, wrapS ⟨by omega, by omega⟩, hx]

theorem Len64_spec (x : Nat) (hx : x < 18446744073709551616) : PCalls Tryz.prog 104 [.int .u64 (x : Int)] (.int .i64 (Lib.bitLen x : Int)) := by
  refine PCalls.of_aw Tryz.func104 rfl (by unfold Callable; kernel_rfl) (by kernel_rfl) (by simp [Tryz.ntmps104]) ?_; rw [Tryz.ntmps104, Tryz.results104]; (simp (disch := first | exact dq | fail) only [go_sem])
  (repeat' first
  | ((with_reducible first | refine Nx.go ?_ | refine And.intro ?_ ?_ | fail) <;> try (simp (disch := first | exact dq | fail) only [go_sem, shr32, shr16, shr8]))
  | ((with_reducible refine Sp.go ?_ ?_) <;> intro h <;> (try (simp (disch := first | exact dq | fail) only [go_sem] at h)) <;> try (simp (disch := first | exact dq | fail) only [go_sem, h, shr32, shr16, shr8])) | fail)
  all_goals (try omega)
  all_goals (try (exact lt_size _ _ (by omega) (by kernel_rfl)))
  · exact len_last 56 _ x (by kernel_rfl) (by omega) rfl (by omega) (by rw [Lib.bitLen_shift32 x (by omega) hx, Lib.bitLen_shift16 _ (by omega) (by omega), Lib.bitLen_shift8 _ (by omega) (by omega)]; omega)
  · exact len_last 48 _ x (by kernel_rfl) (by omega) rfl (by omega) (by rw [Lib.bitLen_shift32 x (by omega) hx, Lib.bitLen_shift16 _ (by omega) (by omega)]; omega)
  · exact len_last 40 _ x (by kernel_rfl) (by omega) rfl (by omega) (by rw [Lib.bitLen_shift32 x (by omega) hx, Lib.bitLen_shift8 _ (by omega) (by omega)]; omega)
  · exact len_last 32 _ x (by kernel_rfl) (by omega) rfl (by omega) (by rw [Lib.bitLen_shift32 x (by omega) hx])
  · exact len_last 24 _ x (by kernel_rfl) (by omega) rfl (by omega) (by rw [Lib.bitLen_shift16 x (by omega) (by omega), Lib.bitLen_shift8 _ (by omega) (by omega)]; omega)
  · exact len_last 16 _ x (by kernel_rfl) (by omega) rfl (by omega) (by rw [Lib.bitLen_shift16 x (by omega) (by omega)])
  · exact len_last 8 _ x (by kernel_rfl) (by omega) rfl (by omega) (by rw [Lib.bitLen_shift8 x (by omega) (by omega)])
  · exact len_last0 _ x (by kernel_rfl) (by omega) rfl
end Go.Proofs.YtpjncojljamacaaGreat.AM
set_option linter.unusedVariables false
set_option linter.unusedSimpArgs false
set_option maxRecDepth 20000
namespace Go.Proofs.YtpjncojljamacaaGreat.AM
open Go Go.RowKit

attribute [go_sem] bitsOf_len isU8
def fitsB (n : Nat) (w : Int) : Bool := decide (0 ≤ w ∧ w ≤ 64 ∧ n < 2 ^ w.toNat)
theorem fits_spec (n : Nat) (w : Int) (hn : n < 18446744073709551616) : PCalls Tryz.prog 110 [.int .u64 (n : Int), .int .i64 w] (.bool (fitsB n w)) := by
  refine PCalls.of_aw Tryz.func110 rfl (by unfold Callable; kernel_rfl) (by kernel_rfl) (by simp [Tryz.ntmps110]) ?_; rw [Tryz.ntmps110, Tryz.results110]; (simp (disch := first | exact dq | fail) only [go_sem])
  (repeat' first
  | ((with_reducible first | refine Nx.go ?_ | refine rP ?_ | refine rR ?_ | refine And.intro ?_ ?_ | fail) <;> try (simp (disch := first | exact dq | fail) only [go_sem]))
  | ((with_reducible refine Sp.go ?_ ?_) <;> intro h <;> (try (simp (disch := first | exact dq | fail) only [go_sem] at h)) <;> try (simp (disch := first | exact dq | fail) only [go_sem, h])) | fail)
  · ((with_reducible first | apply left_callf | apply leftD_callf | apply leftF_callf); (· with_reducible rfl); (· (simp (disch := first | exact dq | fail) only [go_sem]) <;> rfl); (· exact Len64_spec n hn); try (simp (disch := first | exact dq | fail) only [go_sem]))
    (repeat' first
  | ((with_reducible first | refine Nx.go ?_ | refine rP ?_ | refine rR ?_ | refine And.intro ?_ ?_ | fail) <;> try (simp (disch := first | exact dq | fail) only [go_sem]))
  | ((with_reducible refine Sp.go ?_ ?_) <;> intro h <;> (try (simp (disch := first | exact dq | fail) only [go_sem] at h)) <;> try (simp (disch := first | exact dq | fail) only [go_sem, h])) | fail)
    have := bitLen_fits n hn (w := w.toNat) (by omega)
    congr 2
    unfold fitsB
    rw [decide_eq_decide]
    constructor
    · intro h; exact ⟨by omega, by omega, this.1 (by omega)⟩
    · rintro ⟨_, _, h3⟩; have := this.2 h3; omega
  · unfold fitsB; rw [decide_eq_false (by omega)]
  · unfold fitsB; rw [decide_eq_false (by omega)]

theorem Put_ok (l : List Bool) (n : Nat) (w : Int) (hn : n < 18446744073709551616) (hl : l.length ≤ 99999999900) (hf : fitsB n w = true) : MCalls Tryz.prog 94 [.mp 0 0, .iv (.int .u64 (n : Int)), .iv (.int .i64 w)] (bldM l) (.iv (.int .i64 0)) (bldM (l ++ bitsOf n w.toNat)) := by
  have hf' := hf
  unfold fitsB at hf'
  rw [decide_eq_true_eq] at hf'
  obtain ⟨hw0, hw1, hnw⟩ := hf'
  refine MCalls.of_aw Tryz.func94 rfl (by unfold Callable; kernel_rfl) (by kernel_rfl) (by simp [Tryz.ntmps94]) (by (simp (disch := first | exact dq | fail) only [go_sem, bitsOf_len])) ?_; rw [Tryz.ntmps94, Tryz.results94]; (simp (disch := first | exact dq | fail) only [go_sem, bitsOf_len])
  (repeat' first
  | ((with_reducible first | refine Nx.go ?_ | refine rP ?_ | refine rR ?_ | refine And.intro ?_ ?_ | fail) <;> try (simp (disch := first | exact dq | fail) only [go_sem]))
  | ((with_reducible refine Sp.go ?_ ?_) <;> intro h <;> (try (simp (disch := first | exact dq | fail) only [go_sem] at h)) <;> try (simp (disch := first | exact dq | fail) only [go_sem, h])) | fail)
  ((with_reducible first | apply left_callf | apply leftD_callf | apply leftF_callf); (· with_reducible rfl); (· (simp (disch := first | exact dq | fail) only [go_sem]) <;> rfl); (· exact fits_spec n w hn); try (simp (disch := first | exact dq | fail) only [go_sem]))
  (simp (disch := first | exact dq | fail) only [go_sem, hf])
  (repeat' first
  | ((with_reducible first | refine Nx.go ?_ | refine rP ?_ | refine rR ?_ | refine And.intro ?_ ?_ | fail) <;> try (simp (disch := first | exact dq | fail) only [go_sem]))
  | ((with_reducible refine Sp.go ?_ ?_) <;> intro h <;> (try (simp (disch := first | exact dq | fail) only [go_sem] at h)) <;> try (simp (disch := first | exact dq | fail) only [go_sem, h])) | fail)
  refine aw_loop (α := Nat) (fun j => ⟨28, sl [(0, .mp 0 0), (1, .iv (.int .u64 (n : Int))), (16, .iv (.int .i64 w)), (17, .iv (.int .i64 j))], bldM (l ++ bitsOf n j), 2⟩)
    (fun j => (j : Int) ≤ w) (fun j => w.toNat - j) 0 (wk_by [0, 1] ?_) (by omega) ?_
  · (simp (disch := first | exact dq | fail) only [go_sem])
    simp [bitsOf]
  rintro j hj
  (repeat' first
  | ((with_reducible first | refine Nx.go ?_ | refine rP ?_ | refine rR ?_ | refine And.intro ?_ ?_ | fail) <;> try (simp (disch := first | exact dq | fail) only [go_sem]))
  | ((with_reducible refine Sp.go ?_ ?_) <;> intro h <;> (try (simp (disch := first | exact dq | fail) only [go_sem] at h)) <;> try (simp (disch := first | exact dq | fail) only [go_sem, h])) | fail)
  all_goals (try omega)
  · have hb := bit_of n hn (i := (j : Int)) (by omega) (by omega)
    rw [Int.toNat_natCast] at hb
    (simp (disch := first | exact dq | fail) only [go_sem, hb])
    ((first | with_reducible refine left_callMs [0, 1] (Add_spec (l ++ bitsOf n j) (n / 2 ^ j % 2 == 1) (by simp [bitsOf_len]; omega)) ?_ ?_ | with_reducible refine leftD_callMs [0, 1] rfl (Add_spec (l ++ bitsOf n j) (n / 2 ^ j % 2 == 1) (by simp [bitsOf_len]; omega)) ?_ ?_ | with_reducible refine leftD_callRs [0, 1] (by decide) (Add_spec (l ++ bitsOf n j) (n / 2 ^ j % 2 == 1) (by simp [bitsOf_len]; omega)) ?_ ?_); (· (simp (disch := first | exact dq | fail) only [go_sem])); try (simp (disch := first | exact dq | fail) only [go_sem]))
    (repeat' first
  | ((with_reducible first | refine Nx.go ?_ | refine rP ?_ | refine rR ?_ | refine And.intro ?_ ?_ | fail) <;> try (simp (disch := first | exact dq | fail) only [go_sem]))
  | ((with_reducible refine Sp.go ?_ ?_) <;> intro h <;> (try (simp (disch := first | exact dq | fail) only [go_sem] at h)) <;> try (simp (disch := first | exact dq | fail) only [go_sem, h])) | fail)
    refine ⟨j + 1, by omega, wk_by [0, 1] ?_, by omega⟩
    (simp (disch := first | exact dq | fail) only [go_sem, bitsOf_succ, List.append_assoc])
  · have e : w.toNat = j := by omega
    rw [e]
    refine fin_k [0, 1] ?_
    (simp (disch := first | exact dq | fail) only [go_sem])

theorem toNat_one (b : Bool) : decide ((b.toNat : Int) = 1) = b := by cases b <;> rfl
attribute [go_sem] toNat_one

end Go.Proofs.YtpjncojljamacaaGreat.AM
set_option linter.unusedVariables false
set_option linter.unusedSimpArgs false
set_option maxRecDepth 20000
namespace Go.Proofs.YtpjncojljamacaaGreat.AM
open Go Go.RowKit

theorem part_full (l : List Bool) (i : Nat) : ((wordAt l (i / 64) : Nat) : Int).fdiv (2 ^ min (i % 64) 64) = (numN l i (64 - i % 64) : Int) := by
  have := shrN (wordAt l (i / 64)) (r := ((i % 64 : Nat) : Int)) (by omega) (by omega)
  rw [Int.toNat_natCast] at this
  rw [this, word_shr]
theorem part_mask (l : List Bool) (i m : Nat) (hm : m < 64) (h : m ≤ 64 - i % 64) : bitI .and .u64 (numN l i (64 - i % 64) : Int) (IntKind.u64.wrap (IntKind.u64.wrap (1 * 2 ^ min m 64) - 1)) = (numN l i m : Int) := by
  have h1 : numN l i (64 - i % 64) < 18446744073709551616 := Nat.lt_of_lt_of_le (numN_lt _ _ _) (Nat.pow_le_pow_right (n := 2) (by decide) (show 64 - i % 64 ≤ 64 by omega))
  have := mask_word (numN l i (64 - i % 64)) h1 (r := (m : Int)) (by omega) (by omega)
  rw [Int.toNat_natCast] at this
  rw [this, numN_mod l i h]
theorem part_or (l : List Bool) (a g m : Nat) (h : a + g ≤ l.length) (hg : g + m ≤ 64) (hg2 : g < 64) : bitI .or .u64 (numN l a g : Int) (IntKind.u64.wrap ((numN l (a + g) m : Int) * 2 ^ min g 64)) = (numN l a (g + m) : Int) := by
  have h0 := numN_lt l a (g + m)
  have h1 := numN_lt l (a + g) m
  have h2 := numN_lt l a g
  have h64 : (2 : Nat) ^ (g + m) ≤ 18446744073709551616 := Nat.pow_le_pow_right (n := 2) (by decide) hg
  have hadd := numN_add l a g m h
  have h3 : numN l (a + g) m * 2 ^ g < 18446744073709551616 := by rw [Nat.mul_comm]; omega
  have := shlN (numN l (a + g) m) (r := (g : Int)) (by omega) (by omega) (by rw [Int.toNat_natCast]; exact h3)
  rw [Int.toNat_natCast] at this
  rw [this, bitor64 _ _ (by omega) h3, Nat.mul_comm, or_top _ h2, hadd]

theorem Number_ok (l : List Bool) (a w : Nat) (hl : l.length ≤ 100000000000) (hw : w ≤ 64) (ha : a + w ≤ l.length) : PCalls Tryz.prog 49 [bitsV l, .int .i64 a, .int .i64 w] (.tup [.int .u64 (numN l a w : Int), .int .i64 0]) := by
  refine PCalls.of_aw Tryz.func49 rfl (by unfold Callable; kernel_rfl) (by kernel_rfl) (by simp [Tryz.ntmps49]) ?_; rw [Tryz.ntmps49, Tryz.results49]; (simp (disch := first | exact dq | fail) only [go_sem])
  (repeat' first
  | ((with_reducible first | refine Nx.go ?_ | refine rP ?_ | refine rR ?_ | refine And.intro ?_ ?_ | fail) <;> try (simp (disch := first | exact dq | fail) only [go_sem]))
  | ((with_reducible refine Sp.go ?_ ?_) <;> intro h <;> (try (simp (disch := first | exact dq | fail) only [go_sem] at h)) <;> try (simp (disch := first | exact dq | fail) only [go_sem, h])) | fail)
  all_goals (try omega)
  refine aw_loop (α := Nat) (fun g => ⟨75, sl [(1, .iv (.int .i64 a)), (2, .iv (.int .i64 w)), (3, .mp 0 0), (8, .iv (.int .u64 (numN l a g : Int))), (9, .iv (.int .i64 g))],
    [.var 56 [.iv (.int .i64 l.length), .iv (.sl 1 (ws l))]], 0⟩)
    (fun g => g ≤ w) (fun g => w - g) 0 (wk_by [0] ?_) (by omega) ?_
  · (simp (disch := first | exact dq | fail) only [go_sem])
    simp [numN_zero]
  rintro g hg
  (repeat' first
  | ((with_reducible first | refine Nx.go ?_ | refine rP ?_ | refine rR ?_ | refine And.intro ?_ ?_ | fail) <;> try (simp (disch := first | exact dq | fail) only [go_sem]))
  | ((with_reducible refine Sp.go ?_ ?_) <;> intro h <;> (try (simp (disch := first | exact dq | fail) only [go_sem] at h)) <;> try (simp (disch := first | exact dq | fail) only [go_sem, h])) | fail)
  all_goals (try omega)
  · rw [show g = w from by omega]
  all_goals
    obtain ⟨m, hm⟩ : ∃ m : Nat, min (64 - ((a : Int) + g) % 64) ((w : Int) - g) = m := ⟨_, (Int.toNat_of_nonneg (by omega)).symm⟩
    have e1 : (((a : Int) + g) / 64).toNat = (a + g) / 64 := by omega
    have e2 : (((a : Int) + g) % 64).toNat = (a + g) % 64 := by omega
    rw [hm] at h
    refine ⟨g + m, by omega, wk_by [0] ?_, by omega⟩
  · (simp (disch := first | exact dq | fail) only [go_sem, e1, e2, hm, part_full, part_mask l (a + g) m (by omega) (by omega), part_or l a g m (by omega) (by omega) (by omega)])
  · have e3 : m = 64 - (a + g) % 64 := by omega
    have h4 := part_or l a g (64 - (a + g) % 64) (by omega) (by omega) (by omega)
    (simp (disch := first | exact dq | fail) only [go_sem, e1, e2, hm, part_full, h4])
    rw [e3]

end Go.Proofs.YtpjncojljamacaaGreat.AM
set_option linter.unusedVariables false
set_option linter.unusedSimpArgs false
set_option maxRecDepth 20000
namespace Go.Proofs.YtpjncojljamacaaGreat.AM
open Go Go.RowKit

attribute [go_sem] blsV
end Go.Proofs.YtpjncojljamacaaGreat.AM
set_option linter.unusedVariables false
set_option linter.unusedSimpArgs false
set_option maxRecDepth 20000
namespace Go.Proofs.YtpjncojljamacaaGreat.AM
open Go Go.RowKit

@[go_sem] theorem takeMapAll {α : Type} (l : List α) (f : α → IV) {n : Nat} (h : l.length ≤ n) : (l.map f).take n = l.map f := List.take_of_length_le (by simpa using h)

end Go.Proofs.YtpjncojljamacaaGreat.AM
set_option linter.unusedVariables false
set_option linter.unusedSimpArgs false
set_option maxRecDepth 20000
namespace Go.Proofs.YtpjncojljamacaaGreat.AM
open Go Go.RowKit

end Go.Proofs.YtpjncojljamacaaGreat.AM
set_option linter.unusedVariables false
set_option linter.unusedSimpArgs false
set_option maxRecDepth 20000
namespace Go.Proofs.YtpjncojljamacaaGreat.AM
open Go Go.RowKit

end Go.Proofs.YtpjncojljamacaaGreat.AM
set_option linter.unusedVariables false
set_option linter.unusedSimpArgs false
set_option maxRecDepth 20000
namespace Go.Proofs.YtpjncojljamacaaGreat.AM
open Go Go.RowKit

end Go.Proofs.YtpjncojljamacaaGreat.AM
