
/- Chapter 4: parts, and what goes down by a symbol. No condition but lengths that fit. -/
import Derived.Test.YtkfjldkememadaaAD
import Derived.Test.YtkfjldkememadaaV2
import Derived.Test.YtkfjldkememadaaK6
set_option linter.unusedVariables false
set_option linter.unusedSimpArgs false
set_option maxRecDepth 20000
namespace Go.Proofs.Ytkfjldkememadaa.AM
open Go Go.RowKit

def partV (f t : Int) : IV := .agg [.int .i64 f, .int .i64 t]
def waveV (n size : Int) (rows : List (List Bool)) : IV := .agg [.int .i64 n, .int .i64 size, .sl 7 (rows.map rankV)]
def bI (β : Bool) : Int := if β = true then 1 else 0
def b01 (β : Bool) : Nat := if β = true then 1 else 0
theorem bI_nat (β : Bool) : bI β = b01 β := by cases β <;> rfl
theorem down_gen (B : List Bool) (f t : Nat) (β : Bool) (hl : B.length ≤ 100000000) (hf : f ≤ t) (ht : t ≤ B.length) : PCalls Try.prog 48 [partV f t, rankV B, .int .i64 (bI β)]
    (if β = true then partV (f + (cntB B false t - cntB B false f)) t else partV f (f + (cntB B false t - cntB B false f))) := by
  have h1 := Rank0_spec B t hl
  have h2 := Rank0_spec B f hl
  rw [Int.toNat_natCast] at h1 h2
  have c1 := cntB_le B false t
  have c2 := cntB_le B false f
  generalize cntB B false t = x at *
  generalize cntB B false f = y at *
  cases β with
  | false =>
    rw [if_neg (by decide)]
    refine PCalls.of_aw Try.func48 rfl (by unfold Callable; kernel_rfl) (by kernel_rfl) (by simp [Try.ntmps48]) ?_; rw [Try.ntmps48, Try.results48]; (simp (disch := first | exact dq | fail) only [go_sem, partV])
    (repeat' (first
    | ((first | with_reducible (first | refine aw_seq ?_ | refine aw_region (aops_run ?_)) | (with_reducible refine aw_regionD (fun _ => .p) mixed ?_ (dops_run ?_); (· kernel_rfl)) | (with_reducible refine aw_regionD (fun _ => .r) mixed ?_ (dops_run ?_); (· kernel_rfl)) | with_reducible (first | refine aw_condK ?_ | refine aw_skip ?_ | refine aw_ret ?_ | refine aw_exit ?_ | refine aw_label ?_ | refine aw_block ?_ | refine aw_scope ?_ | refine And.intro ?_ ?_)) <;> (try (simp (disch := first | exact dq | fail) only [go_sem, bI])))
    | (with_reducible (first | refine wantK_split (fun h => ?_) (fun h => ?_) | refine condK_split (fun h => ?_) (fun h => ?_) | refine pickV_split (fun h => ?_) (fun h => ?_)) <;> (try (simp (disch := first | exact dq | fail) only [go_sem] at h)) <;> (try (simp (disch := first | exact dq | fail) only [go_sem, h, bI])))))
    all_goals (try omega)
    ((first | with_reducible apply left_callf | with_reducible apply leftD_callf | with_reducible apply leftF_callf); (· with_reducible rfl); (· (simp (disch := first | exact dq | fail) only [go_sem]) <;> rfl); (· exact h1); try (simp (disch := first | exact dq | fail) only [go_sem]))
    (repeat' (first
    | ((first | with_reducible (first | refine aw_seq ?_ | refine aw_region (aops_run ?_)) | (with_reducible refine aw_regionD (fun _ => .p) mixed ?_ (dops_run ?_); (· kernel_rfl)) | (with_reducible refine aw_regionD (fun _ => .r) mixed ?_ (dops_run ?_); (· kernel_rfl)) | with_reducible (first | refine aw_condK ?_ | refine aw_skip ?_ | refine aw_ret ?_ | refine aw_exit ?_ | refine aw_label ?_ | refine aw_block ?_ | refine aw_scope ?_ | refine And.intro ?_ ?_)) <;> (try (simp (disch := first | exact dq | fail) only [go_sem])))
    | (with_reducible (first | refine wantK_split (fun h => ?_) (fun h => ?_) | refine condK_split (fun h => ?_) (fun h => ?_) | refine pickV_split (fun h => ?_) (fun h => ?_)) <;> (try (simp (disch := first | exact dq | fail) only [go_sem] at h)) <;> (try (simp (disch := first | exact dq | fail) only [go_sem, h])))))
    ((first | with_reducible apply left_callf | with_reducible apply leftD_callf | with_reducible apply leftF_callf); (· with_reducible rfl); (· (simp (disch := first | exact dq | fail) only [go_sem]) <;> rfl); (· exact h2); try (simp (disch := first | exact dq | fail) only [go_sem]))
    (repeat' (first
    | ((first | with_reducible (first | refine aw_seq ?_ | refine aw_region (aops_run ?_)) | (with_reducible refine aw_regionD (fun _ => .p) mixed ?_ (dops_run ?_); (· kernel_rfl)) | (with_reducible refine aw_regionD (fun _ => .r) mixed ?_ (dops_run ?_); (· kernel_rfl)) | with_reducible (first | refine aw_condK ?_ | refine aw_skip ?_ | refine aw_ret ?_ | refine aw_exit ?_ | refine aw_label ?_ | refine aw_block ?_ | refine aw_scope ?_ | refine And.intro ?_ ?_)) <;> (try (simp (disch := first | exact dq | fail) only [go_sem, bI])))
    | (with_reducible (first | refine wantK_split (fun h => ?_) (fun h => ?_) | refine condK_split (fun h => ?_) (fun h => ?_) | refine pickV_split (fun h => ?_) (fun h => ?_)) <;> (try (simp (disch := first | exact dq | fail) only [go_sem] at h)) <;> (try (simp (disch := first | exact dq | fail) only [go_sem, h, bI])))))
    all_goals (try omega)
  | true =>
    rw [if_pos rfl]
    refine PCalls.of_aw Try.func48 rfl (by unfold Callable; kernel_rfl) (by kernel_rfl) (by simp [Try.ntmps48]) ?_; rw [Try.ntmps48, Try.results48]; (simp (disch := first | exact dq | fail) only [go_sem, partV])
    (repeat' (first
    | ((first | with_reducible (first | refine aw_seq ?_ | refine aw_region (aops_run ?_)) | (with_reducible refine aw_regionD (fun _ => .p) mixed ?_ (dops_run ?_); (· kernel_rfl)) | (with_reducible refine aw_regionD (fun _ => .r) mixed ?_ (dops_run ?_); (· kernel_rfl)) | with_reducible (first | refine aw_condK ?_ | refine aw_skip ?_ | refine aw_ret ?_ | refine aw_exit ?_ | refine aw_label ?_ | refine aw_block ?_ | refine aw_scope ?_ | refine And.intro ?_ ?_)) <;> (try (simp (disch := first | exact dq | fail) only [go_sem, bI])))
    | (with_reducible (first | refine wantK_split (fun h => ?_) (fun h => ?_) | refine condK_split (fun h => ?_) (fun h => ?_) | refine pickV_split (fun h => ?_) (fun h => ?_)) <;> (try (simp (disch := first | exact dq | fail) only [go_sem] at h)) <;> (try (simp (disch := first | exact dq | fail) only [go_sem, h, bI])))))
    all_goals (try omega)
    ((first | with_reducible apply left_callf | with_reducible apply leftD_callf | with_reducible apply leftF_callf); (· with_reducible rfl); (· (simp (disch := first | exact dq | fail) only [go_sem]) <;> rfl); (· exact h1); try (simp (disch := first | exact dq | fail) only [go_sem]))
    (repeat' (first
    | ((first | with_reducible (first | refine aw_seq ?_ | refine aw_region (aops_run ?_)) | (with_reducible refine aw_regionD (fun _ => .p) mixed ?_ (dops_run ?_); (· kernel_rfl)) | (with_reducible refine aw_regionD (fun _ => .r) mixed ?_ (dops_run ?_); (· kernel_rfl)) | with_reducible (first | refine aw_condK ?_ | refine aw_skip ?_ | refine aw_ret ?_ | refine aw_exit ?_ | refine aw_label ?_ | refine aw_block ?_ | refine aw_scope ?_ | refine And.intro ?_ ?_)) <;> (try (simp (disch := first | exact dq | fail) only [go_sem])))
    | (with_reducible (first | refine wantK_split (fun h => ?_) (fun h => ?_) | refine condK_split (fun h => ?_) (fun h => ?_) | refine pickV_split (fun h => ?_) (fun h => ?_)) <;> (try (simp (disch := first | exact dq | fail) only [go_sem] at h)) <;> (try (simp (disch := first | exact dq | fail) only [go_sem, h])))))
    ((first | with_reducible apply left_callf | with_reducible apply leftD_callf | with_reducible apply leftF_callf); (· with_reducible rfl); (· (simp (disch := first | exact dq | fail) only [go_sem]) <;> rfl); (· exact h2); try (simp (disch := first | exact dq | fail) only [go_sem]))
    (repeat' (first
    | ((first | with_reducible (first | refine aw_seq ?_ | refine aw_region (aops_run ?_)) | (with_reducible refine aw_regionD (fun _ => .p) mixed ?_ (dops_run ?_); (· kernel_rfl)) | (with_reducible refine aw_regionD (fun _ => .r) mixed ?_ (dops_run ?_); (· kernel_rfl)) | with_reducible (first | refine aw_condK ?_ | refine aw_skip ?_ | refine aw_ret ?_ | refine aw_exit ?_ | refine aw_label ?_ | refine aw_block ?_ | refine aw_scope ?_ | refine And.intro ?_ ?_)) <;> (try (simp (disch := first | exact dq | fail) only [go_sem, bI])))
    | (with_reducible (first | refine wantK_split (fun h => ?_) (fun h => ?_) | refine condK_split (fun h => ?_) (fun h => ?_) | refine pickV_split (fun h => ?_) (fun h => ?_)) <;> (try (simp (disch := first | exact dq | fail) only [go_sem] at h)) <;> (try (simp (disch := first | exact dq | fail) only [go_sem, h, bI])))))
    all_goals (try omega)
def prt (K : Nat → Nat) (n v : Nat) : IV := partV (cL K v n) (cL K (v + 1) n)
def plc (K : Nat → Nat) (n v i : Nat) : Nat := cL K v n + cN K v i
theorem b01_if (β : Bool) : (if β = true then 1 else 0 : Nat) = b01 β := rfl
theorem cL_end_le (K : Nat → Nat) (v n : Nat) : cL K v n ≤ cL K (v + 1) n ∧ cL K (v + 1) n ≤ n := ⟨cL_mono K n (by omega), cL_le K _ n⟩
theorem down_spec (K : Nat → Nat) (b : Nat → Bool) (n v : Nat) (β : Bool) (hn : n ≤ 100000000) : PCalls Try.prog 48 [prt K n v, rankV (rowK K b n), .int .i64 (bI β)] (prt (nxtK K b) n (2 * v + b01 β)) := by
  have hl := rowK_len K b n
  have h0 := cL_end_le K v n
  have h := down_gen (rowK K b n) (cL K v n) (cL K (v + 1) n) β (by omega) h0.1 (by omega)
  have hz := zeros_of K b n v
  have e0 := down_end0 K b n v
  have e1 := down_end1 K b n v
  have e2 := cL_two K b v n
  unfold prt
  cases β with
  | false =>
    rw [if_neg (by decide)] at h
    rw [show 2 * v + b01 false = 2 * v from rfl, e2, ← e0]
    have : (cL K v n : Int) + ((cntB (rowK K b n) false (cL K (v + 1) n) : Nat) - (cntB (rowK K b n) false (cL K v n) : Nat)) = ((cL K v n + cN (nxtK K b) (2 * v) n : Nat) : Int) := by omega
    rwa [this] at h
  | true =>
    rw [if_pos rfl] at h
    rw [show 2 * v + b01 true = 2 * v + 1 from rfl, show 2 * v + 1 + 1 = 2 * v + 2 by omega, ← e1, ← e0]
    have : (cL K v n : Int) + ((cntB (rowK K b n) false (cL K (v + 1) n) : Nat) - (cntB (rowK K b n) false (cL K v n) : Nat)) = ((cL K v n + cN (nxtK K b) (2 * v) n : Nat) : Int) := by omega
    rwa [this] at h
theorem place_spec (K : Nat → Nat) (b : Nat → Bool) (n v i : Nat) (β : Bool) (hn : n ≤ 100000000) (hi : i ≤ n) : PCalls Try.prog 47 [prt K n v, rankV (rowK K b n), .int .i64 (bI β), .int .i64 (plc K n v i)] (.int .i64 (plc (nxtK K b) n (2 * v + b01 β) i)) := by
  have hl := rowK_len K b n
  have hd := down_spec K b n v β hn
  have hc := row_count K b n v β i hi
  rw [b01_if] at hc
  have hfit := cN_fit K v n hi
  have hfit2 := cN_fit (nxtK K b) (2 * v + b01 β) n hi
  have c1 := cntB_le (rowK K b n) β (plc K n v i)
  have c2 := cntB_le (rowK K b n) β (cL K v n)
  have hp : cL K v n + cN K v i = plc K n v i := rfl
  have hq : plc (nxtK K b) n (2 * v + b01 β) i = cL (nxtK K b) (2 * v + b01 β) n + cN (nxtK K b) (2 * v + b01 β) i := rfl
  rw [hp] at hc
  have hle := cL_end_le (nxtK K b) (2 * v + b01 β) n
  have hle0 := cL_end_le K v n
  unfold prt at hd ⊢
  generalize cL (nxtK K b) (2 * v + b01 β) n = f' at *
  generalize cL (nxtK K b) (2 * v + b01 β + 1) n = t' at *
  generalize cN (nxtK K b) (2 * v + b01 β) i = z at *
  generalize plc (nxtK K b) n (2 * v + b01 β) i = p' at *
  generalize plc K n v i = x at *
  generalize cL K v n = f at *
  generalize cL K (v + 1) n = t at *
  have fin : (f' : Int) + (cntB (rowK K b n) β x : Nat) - (cntB (rowK K b n) β f : Nat) = p' := by omega
  cases β with
  | false =>
    have h1 := Rank0_spec (rowK K b n) x (by omega)
    have h2 := Rank0_spec (rowK K b n) f (by omega)
    rw [Int.toNat_natCast] at h1 h2
    unfold partV at hd ⊢
    have e0 : bI false = 0 := rfl
    rw [e0] at hd ⊢
    refine PCalls.of_aw Try.func47 rfl (by unfold Callable; kernel_rfl) (by kernel_rfl) (by simp [Try.ntmps47]) ?_; rw [Try.ntmps47, Try.results47]; (simp (disch := first | exact dq | fail) only [go_sem])
    (repeat' (first
    | ((first | with_reducible (first | refine aw_seq ?_ | refine aw_region (aops_run ?_)) | (with_reducible refine aw_regionD (fun _ => .p) mixed ?_ (dops_run ?_); (· kernel_rfl)) | (with_reducible refine aw_regionD (fun _ => .r) mixed ?_ (dops_run ?_); (· kernel_rfl)) | with_reducible (first | refine aw_condK ?_ | refine aw_skip ?_ | refine aw_ret ?_ | refine aw_exit ?_ | refine aw_label ?_ | refine aw_block ?_ | refine aw_scope ?_ | refine And.intro ?_ ?_)) <;> (try (simp (disch := first | exact dq | fail) only [go_sem])))
    | (with_reducible (first | refine wantK_split (fun h => ?_) (fun h => ?_) | refine condK_split (fun h => ?_) (fun h => ?_) | refine pickV_split (fun h => ?_) (fun h => ?_)) <;> (try (simp (disch := first | exact dq | fail) only [go_sem] at h)) <;> (try (simp (disch := first | exact dq | fail) only [go_sem, h])))))
    ((first | with_reducible apply left_callf | with_reducible apply leftD_callf | with_reducible apply leftF_callf); (· with_reducible rfl); (· (simp (disch := first | exact dq | fail) only [go_sem]) <;> rfl); (· exact hd); try (simp (disch := first | exact dq | fail) only [go_sem]))
    (repeat' (first
    | ((first | with_reducible (first | refine aw_seq ?_ | refine aw_region (aops_run ?_)) | (with_reducible refine aw_regionD (fun _ => .p) mixed ?_ (dops_run ?_); (· kernel_rfl)) | (with_reducible refine aw_regionD (fun _ => .r) mixed ?_ (dops_run ?_); (· kernel_rfl)) | with_reducible (first | refine aw_condK ?_ | refine aw_skip ?_ | refine aw_ret ?_ | refine aw_exit ?_ | refine aw_label ?_ | refine aw_block ?_ | refine aw_scope ?_ | refine And.intro ?_ ?_)) <;> (try (simp (disch := first | exact dq | fail) only [go_sem])))
    | (with_reducible (first | refine wantK_split (fun h => ?_) (fun h => ?_) | refine condK_split (fun h => ?_) (fun h => ?_) | refine pickV_split (fun h => ?_) (fun h => ?_)) <;> (try (simp (disch := first | exact dq | fail) only [go_sem] at h)) <;> (try (simp (disch := first | exact dq | fail) only [go_sem, h])))))
    all_goals (try omega)
    ((first | with_reducible apply left_callf | with_reducible apply leftD_callf | with_reducible apply leftF_callf); (· with_reducible rfl); (· (simp (disch := first | exact dq | fail) only [go_sem]) <;> rfl); (· exact h1); try (simp (disch := first | exact dq | fail) only [go_sem]))
    (repeat' (first
    | ((first | with_reducible (first | refine aw_seq ?_ | refine aw_region (aops_run ?_)) | (with_reducible refine aw_regionD (fun _ => .p) mixed ?_ (dops_run ?_); (· kernel_rfl)) | (with_reducible refine aw_regionD (fun _ => .r) mixed ?_ (dops_run ?_); (· kernel_rfl)) | with_reducible (first | refine aw_condK ?_ | refine aw_skip ?_ | refine aw_ret ?_ | refine aw_exit ?_ | refine aw_label ?_ | refine aw_block ?_ | refine aw_scope ?_ | refine And.intro ?_ ?_)) <;> (try (simp (disch := first | exact dq | fail) only [go_sem])))
    | (with_reducible (first | refine wantK_split (fun h => ?_) (fun h => ?_) | refine condK_split (fun h => ?_) (fun h => ?_) | refine pickV_split (fun h => ?_) (fun h => ?_)) <;> (try (simp (disch := first | exact dq | fail) only [go_sem] at h)) <;> (try (simp (disch := first | exact dq | fail) only [go_sem, h])))))
    ((first | with_reducible apply left_callf | with_reducible apply leftD_callf | with_reducible apply leftF_callf); (· with_reducible rfl); (· (simp (disch := first | exact dq | fail) only [go_sem]) <;> rfl); (· exact h2); try (simp (disch := first | exact dq | fail) only [go_sem]))
    (repeat' (first
    | ((first | with_reducible (first | refine aw_seq ?_ | refine aw_region (aops_run ?_)) | (with_reducible refine aw_regionD (fun _ => .p) mixed ?_ (dops_run ?_); (· kernel_rfl)) | (with_reducible refine aw_regionD (fun _ => .r) mixed ?_ (dops_run ?_); (· kernel_rfl)) | with_reducible (first | refine aw_condK ?_ | refine aw_skip ?_ | refine aw_ret ?_ | refine aw_exit ?_ | refine aw_label ?_ | refine aw_block ?_ | refine aw_scope ?_ | refine And.intro ?_ ?_)) <;> (try (simp (disch := first | exact dq | fail) only [go_sem, fin])))
    | (with_reducible (first | refine wantK_split (fun h => ?_) (fun h => ?_) | refine condK_split (fun h => ?_) (fun h => ?_) | refine pickV_split (fun h => ?_) (fun h => ?_)) <;> (try (simp (disch := first | exact dq | fail) only [go_sem] at h)) <;> (try (simp (disch := first | exact dq | fail) only [go_sem, h, fin])))))
    all_goals (try omega)
  | true =>
    have h1 := Rank1_spec (rowK K b n) x (by omega)
    have h2 := Rank1_spec (rowK K b n) f (by omega)
    rw [Int.toNat_natCast, ← cntB_true] at h1 h2
    unfold partV at hd ⊢
    have e0 : bI true = 1 := rfl
    rw [e0] at hd ⊢
    refine PCalls.of_aw Try.func47 rfl (by unfold Callable; kernel_rfl) (by kernel_rfl) (by simp [Try.ntmps47]) ?_; rw [Try.ntmps47, Try.results47]; (simp (disch := first | exact dq | fail) only [go_sem])
    (repeat' (first
    | ((first | with_reducible (first | refine aw_seq ?_ | refine aw_region (aops_run ?_)) | (with_reducible refine aw_regionD (fun _ => .p) mixed ?_ (dops_run ?_); (· kernel_rfl)) | (with_reducible refine aw_regionD (fun _ => .r) mixed ?_ (dops_run ?_); (· kernel_rfl)) | with_reducible (first | refine aw_condK ?_ | refine aw_skip ?_ | refine aw_ret ?_ | refine aw_exit ?_ | refine aw_label ?_ | refine aw_block ?_ | refine aw_scope ?_ | refine And.intro ?_ ?_)) <;> (try (simp (disch := first | exact dq | fail) only [go_sem])))
    | (with_reducible (first | refine wantK_split (fun h => ?_) (fun h => ?_) | refine condK_split (fun h => ?_) (fun h => ?_) | refine pickV_split (fun h => ?_) (fun h => ?_)) <;> (try (simp (disch := first | exact dq | fail) only [go_sem] at h)) <;> (try (simp (disch := first | exact dq | fail) only [go_sem, h])))))
    ((first | with_reducible apply left_callf | with_reducible apply leftD_callf | with_reducible apply leftF_callf); (· with_reducible rfl); (· (simp (disch := first | exact dq | fail) only [go_sem]) <;> rfl); (· exact hd); try (simp (disch := first | exact dq | fail) only [go_sem]))
    (repeat' (first
    | ((first | with_reducible (first | refine aw_seq ?_ | refine aw_region (aops_run ?_)) | (with_reducible refine aw_regionD (fun _ => .p) mixed ?_ (dops_run ?_); (· kernel_rfl)) | (with_reducible refine aw_regionD (fun _ => .r) mixed ?_ (dops_run ?_); (· kernel_rfl)) | with_reducible (first | refine aw_condK ?_ | refine aw_skip ?_ | refine aw_ret ?_ | refine aw_exit ?_ | refine aw_label ?_ | refine aw_block ?_ | refine aw_scope ?_ | refine And.intro ?_ ?_)) <;> (try (simp (disch := first | exact dq | fail) only [go_sem])))
    | (with_reducible (first | refine wantK_split (fun h => ?_) (fun h => ?_) | refine condK_split (fun h => ?_) (fun h => ?_) | refine pickV_split (fun h => ?_) (fun h => ?_)) <;> (try (simp (disch := first | exact dq | fail) only [go_sem] at h)) <;> (try (simp (disch := first | exact dq | fail) only [go_sem, h])))))
    all_goals (try omega)
    ((first | with_reducible apply left_callf | with_reducible apply leftD_callf | with_reducible apply leftF_callf); (· with_reducible rfl); (· (simp (disch := first | exact dq | fail) only [go_sem]) <;> rfl); (· exact h1); try (simp (disch := first | exact dq | fail) only [go_sem]))
    (repeat' (first
    | ((first | with_reducible (first | refine aw_seq ?_ | refine aw_region (aops_run ?_)) | (with_reducible refine aw_regionD (fun _ => .p) mixed ?_ (dops_run ?_); (· kernel_rfl)) | (with_reducible refine aw_regionD (fun _ => .r) mixed ?_ (dops_run ?_); (· kernel_rfl)) | with_reducible (first | refine aw_condK ?_ | refine aw_skip ?_ | refine aw_ret ?_ | refine aw_exit ?_ | refine aw_label ?_ | refine aw_block ?_ | refine aw_scope ?_ | refine And.intro ?_ ?_)) <;> (try (simp (disch := first | exact dq | fail) only [go_sem])))
    | (with_reducible (first | refine wantK_split (fun h => ?_) (fun h => ?_) | refine condK_split (fun h => ?_) (fun h => ?_) | refine pickV_split (fun h => ?_) (fun h => ?_)) <;> (try (simp (disch := first | exact dq | fail) only [go_sem] at h)) <;> (try (simp (disch := first | exact dq | fail) only [go_sem, h])))))
    ((first | with_reducible apply left_callf | with_reducible apply leftD_callf | with_reducible apply leftF_callf); (· with_reducible rfl); (· (simp (disch := first | exact dq | fail) only [go_sem]) <;> rfl); (· exact h2); try (simp (disch := first | exact dq | fail) only [go_sem]))
    (repeat' (first
    | ((first | with_reducible (first | refine aw_seq ?_ | refine aw_region (aops_run ?_)) | (with_reducible refine aw_regionD (fun _ => .p) mixed ?_ (dops_run ?_); (· kernel_rfl)) | (with_reducible refine aw_regionD (fun _ => .r) mixed ?_ (dops_run ?_); (· kernel_rfl)) | with_reducible (first | refine aw_condK ?_ | refine aw_skip ?_ | refine aw_ret ?_ | refine aw_exit ?_ | refine aw_label ?_ | refine aw_block ?_ | refine aw_scope ?_ | refine And.intro ?_ ?_)) <;> (try (simp (disch := first | exact dq | fail) only [go_sem, fin])))
    | (with_reducible (first | refine wantK_split (fun h => ?_) (fun h => ?_) | refine condK_split (fun h => ?_) (fun h => ?_) | refine pickV_split (fun h => ?_) (fun h => ?_)) <;> (try (simp (disch := first | exact dq | fail) only [go_sem] at h)) <;> (try (simp (disch := first | exact dq | fail) only [go_sem, h, fin])))))
    all_goals (try omega)
theorem is_spec (n size : Int) (rows : List (List Bool)) (c : Int) : PCalls Try.prog 45 [waveV n size rows, .int .i64 c] (.bool (decide (0 ≤ c) && decide (c < size))) := by
  by_cases h : 0 ≤ c
  · have h' : c ≥ 0 := h
    rw [decide_eq_true h]
    refine PCalls.of_aw Try.func45 rfl (by unfold Callable; kernel_rfl) (by kernel_rfl) (by simp [Try.ntmps45]) ?_; rw [Try.ntmps45, Try.results45]; (simp (disch := first | exact dq | fail) only [go_sem, waveV])
    (repeat' (first
    | ((first | with_reducible (first | refine aw_seq ?_ | refine aw_region (aops_run ?_)) | (with_reducible refine aw_regionD (fun _ => .p) mixed ?_ (dops_run ?_); (· kernel_rfl)) | (with_reducible refine aw_regionD (fun _ => .r) mixed ?_ (dops_run ?_); (· kernel_rfl)) | with_reducible (first | refine aw_condK ?_ | refine aw_skip ?_ | refine aw_ret ?_ | refine aw_exit ?_ | refine aw_label ?_ | refine aw_block ?_ | refine aw_scope ?_ | refine And.intro ?_ ?_)) <;> (try (simp (disch := first | exact dq | fail) only [go_sem, h', decide_true])))
    | (with_reducible (first | refine wantK_split (fun h => ?_) (fun h => ?_) | refine condK_split (fun h => ?_) (fun h => ?_) | refine pickV_split (fun h => ?_) (fun h => ?_)) <;> (try (simp (disch := first | exact dq | fail) only [go_sem] at h)) <;> (try (simp (disch := first | exact dq | fail) only [go_sem, h, h', decide_true])))))
    all_goals (try omega)
    all_goals simp
  · have h' : ¬ (c ≥ 0) := h
    rw [decide_eq_false h]
    refine PCalls.of_aw Try.func45 rfl (by unfold Callable; kernel_rfl) (by kernel_rfl) (by simp [Try.ntmps45]) ?_; rw [Try.ntmps45, Try.results45]; (simp (disch := first | exact dq | fail) only [go_sem, waveV])
    (repeat' (first
    | ((first | with_reducible (first | refine aw_seq ?_ | refine aw_region (aops_run ?_)) | (with_reducible refine aw_regionD (fun _ => .p) mixed ?_ (dops_run ?_); (· kernel_rfl)) | (with_reducible refine aw_regionD (fun _ => .r) mixed ?_ (dops_run ?_); (· kernel_rfl)) | with_reducible (first | refine aw_condK ?_ | refine aw_skip ?_ | refine aw_ret ?_ | refine aw_exit ?_ | refine aw_label ?_ | refine aw_block ?_ | refine aw_scope ?_ | refine And.intro ?_ ?_)) <;> (try (simp (disch := first | exact dq | fail) only [go_sem, h', decide_false])))
    | (with_reducible (first | refine wantK_split (fun h => ?_) (fun h => ?_) | refine condK_split (fun h => ?_) (fun h => ?_) | refine pickV_split (fun h => ?_) (fun h => ?_)) <;> (try (simp (disch := first | exact dq | fail) only [go_sem] at h)) <;> (try (simp (disch := first | exact dq | fail) only [go_sem, h, h', decide_false])))))
    all_goals (try omega)
theorem shr_bit (c d : Nat) (hd : d < 64) (hc : c < 4611686018427387904) : bitI .and .i64 (((c : Nat) : Int).fdiv (2 ^ min d 64)) 1 = ((c / 2 ^ d % 2 : Nat) : Int) := by
  have e : ((c : Nat) : Int).fdiv (2 ^ min d 64) = ((c / 2 ^ d : Nat) : Int) := by
    rw [show min d 64 = d by omega, Int.fdiv_eq_ediv_of_nonneg _ (Int.pow_nonneg (by decide))]
    rw [Int.natCast_ediv, Int.natCast_pow]; rfl
  rw [e]
  have := and_maskS ((c / 2 ^ d : Nat) : Int) 2 1 (by decide) rfl
  rw [show (((2 : Nat) : Int) - 1) = 1 from rfl] at this
  rw [this]
  omega
theorem bit_spec (n size : Int) (rows : List (List Bool)) (c k : Nat) (hk : k < rows.length) (hr : rows.length ≤ 62) (hc : c < 4611686018427387904) : PCalls Try.prog 46 [waveV n size rows, .int .i64 c, .int .i64 k] (.int .i64 ((c / 2 ^ (rows.length - 1 - k) % 2 : Nat) : Int)) := by
  have hb := shr_bit c (rows.length - 1 - k) (by omega) hc
  have e : (rows.length : Int) - 1 - k = ((rows.length - 1 - k : Nat) : Int) := by omega
  generalize rows.length - 1 - k = d at *
  refine PCalls.of_aw Try.func46 rfl (by unfold Callable; kernel_rfl) (by kernel_rfl) (by simp [Try.ntmps46]) ?_; rw [Try.ntmps46, Try.results46]; (simp (disch := first | exact dq | fail) only [go_sem, waveV])
  (repeat' (first
    | ((first | with_reducible (first | refine aw_seq ?_ | refine aw_region (aops_run ?_)) | (with_reducible refine aw_regionD (fun _ => .p) mixed ?_ (dops_run ?_); (· kernel_rfl)) | (with_reducible refine aw_regionD (fun _ => .r) mixed ?_ (dops_run ?_); (· kernel_rfl)) | with_reducible (first | refine aw_condK ?_ | refine aw_skip ?_ | refine aw_ret ?_ | refine aw_exit ?_ | refine aw_label ?_ | refine aw_block ?_ | refine aw_scope ?_ | refine And.intro ?_ ?_)) <;> (try (simp (disch := first | exact dq | fail) only [go_sem, e, hb])))
    | (with_reducible (first | refine wantK_split (fun h => ?_) (fun h => ?_) | refine condK_split (fun h => ?_) (fun h => ?_) | refine pickV_split (fun h => ?_) (fun h => ?_)) <;> (try (simp (disch := first | exact dq | fail) only [go_sem] at h)) <;> (try (simp (disch := first | exact dq | fail) only [go_sem, h, e, hb])))))
  all_goals (try omega)
end Go.Proofs.Ytkfjldkememadaa.AM
