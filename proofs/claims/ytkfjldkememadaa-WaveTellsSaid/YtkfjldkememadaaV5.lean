
/- Chapter 4: parted: a stable sort by a bit. No condition but lengths that fit. -/
import Derived.Test.YtkfjldkememadaaV4
import Derived.Test.YtkfjldkememadaaW4
set_option linter.unusedVariables false
set_option linter.unusedSimpArgs false
set_option maxRecDepth 20000
namespace Go.Proofs.Ytkfjldkememadaa.AM
open Go Go.RowKit

theorem insE (g : Nat) (T : TypeId) (c : IV) : MCalls Try.prog 83 [.iv (inl []), .iv (.int .i64 0), .iv (.int .i64 0), .fn g [.mp 0 0]] [.var T [.iv c]] (.tup []) [.var T [.iv c]] := by
  refine MCalls.of_aw Try.func83 rfl (by unfold Callable; kernel_rfl) (by kernel_rfl) (by simp [Try.ntmps83]) (by (simp (disch := first | exact dq | fail) only [go_sem])) ?_; rw [Try.ntmps83, Try.results83]; (simp (disch := first | exact dq | fail) only [go_sem])
  (repeat' (first
    | ((first | with_reducible (first | refine aw_seq ?_ | refine aw_region (aops_run ?_)) | (with_reducible refine aw_regionD (fun _ => .p) mixed ?_ (dops_run ?_); (· kernel_rfl)) | (with_reducible refine aw_regionD (fun _ => .r) mixed ?_ (dops_run ?_); (· kernel_rfl)) | with_reducible (first | refine aw_condK ?_ | refine aw_skip ?_ | refine aw_ret ?_ | refine aw_exit ?_ | refine aw_label ?_ | refine aw_block ?_ | refine aw_scope ?_ | refine And.intro ?_ ?_)) <;> (try (simp (disch := first | exact dq | fail) only [go_sem])))
    | (with_reducible (first | refine wantK_split (fun h => ?_) (fun h => ?_) | refine condK_split (fun h => ?_) (fun h => ?_) | refine pickV_split (fun h => ?_) (fun h => ?_)) <;> (try (simp (disch := first | exact dq | fail) only [go_sem] at h)) <;> (try (simp (disch := first | exact dq | fail) only [go_sem, h])))))
  (repeat' (first
    | ((first | with_reducible (first | refine aw_seq ?_ | refine aw_region (aops_run ?_)) | (with_reducible refine aw_regionD (fun _ => .p) mixed ?_ (dops_run ?_); (· kernel_rfl)) | (with_reducible refine aw_regionD (fun _ => .r) mixed ?_ (dops_run ?_); (· kernel_rfl)) | with_reducible (first | refine aw_condK ?_ | refine aw_skip ?_ | refine aw_ret ?_ | refine aw_exit ?_ | refine aw_label ?_ | refine aw_block ?_ | refine aw_scope ?_ | refine And.intro ?_ ?_ | refine aw_rounds 64 ?_ | refine awN_step ?_)) <;> (try (simp (disch := first | exact dq | fail) only [go_sem])))
    | (with_reducible (first | refine wantK_split (fun h => ?_) (fun h => ?_) | refine condK_split (fun h => ?_) (fun h => ?_) | refine pickV_split (fun h => ?_) (fun h => ?_)) <;> (try (simp (disch := first | exact dq | fail) only [go_sem] at h)) <;> (try (simp (disch := first | exact dq | fail) only [go_sem, h])))))
  refine fin_k [0] ?_
  (simp (disch := first | exact dq | fail) only [go_sem])
theorem stableE (g : Nat) (T : TypeId) (c : IV) : MCalls Try.prog 77 [.iv (inl []), .iv (.int .i64 0), .fn g [.mp 0 0]] [.var T [.iv c]] (.tup []) [.var T [.iv c]] := by
  refine MCalls.of_aw Try.func77 rfl (by unfold Callable; kernel_rfl) (by kernel_rfl) (by simp [Try.ntmps77]) (by (simp (disch := first | exact dq | fail) only [go_sem])) ?_; rw [Try.ntmps77, Try.results77]; (simp (disch := first | exact dq | fail) only [go_sem])
  (repeat' (first
    | ((first | with_reducible (first | refine aw_seq ?_ | refine aw_region (aops_run ?_)) | (with_reducible refine aw_regionD (fun _ => .p) mixed ?_ (dops_run ?_); (· kernel_rfl)) | (with_reducible refine aw_regionD (fun _ => .r) mixed ?_ (dops_run ?_); (· kernel_rfl)) | with_reducible (first | refine aw_condK ?_ | refine aw_skip ?_ | refine aw_ret ?_ | refine aw_exit ?_ | refine aw_label ?_ | refine aw_block ?_ | refine aw_scope ?_ | refine And.intro ?_ ?_)) <;> (try (simp (disch := first | exact dq | fail) only [go_sem])))
    | (with_reducible (first | refine wantK_split (fun h => ?_) (fun h => ?_) | refine condK_split (fun h => ?_) (fun h => ?_) | refine pickV_split (fun h => ?_) (fun h => ?_)) <;> (try (simp (disch := first | exact dq | fail) only [go_sem] at h)) <;> (try (simp (disch := first | exact dq | fail) only [go_sem, h])))))
  (repeat' (first
    | ((first | with_reducible (first | refine aw_seq ?_ | refine aw_region (aops_run ?_)) | (with_reducible refine aw_regionD (fun _ => .p) mixed ?_ (dops_run ?_); (· kernel_rfl)) | (with_reducible refine aw_regionD (fun _ => .r) mixed ?_ (dops_run ?_); (· kernel_rfl)) | with_reducible (first | refine aw_condK ?_ | refine aw_skip ?_ | refine aw_ret ?_ | refine aw_exit ?_ | refine aw_label ?_ | refine aw_block ?_ | refine aw_scope ?_ | refine And.intro ?_ ?_ | refine aw_rounds 64 ?_ | refine awN_step ?_)) <;> (try (simp (disch := first | exact dq | fail) only [go_sem])))
    | (with_reducible (first | refine wantK_split (fun h => ?_) (fun h => ?_) | refine condK_split (fun h => ?_) (fun h => ?_) | refine pickV_split (fun h => ?_) (fun h => ?_)) <;> (try (simp (disch := first | exact dq | fail) only [go_sem] at h)) <;> (try (simp (disch := first | exact dq | fail) only [go_sem, h])))))
  ((first | with_reducible refine left_callMs [0] (insE g T c) ?_ ?_ | with_reducible refine leftD_callMs [0] rfl (insE g T c) ?_ ?_ | with_reducible refine leftD_callRs [0] (by decide) (insE g T c) ?_ ?_); (· (simp (disch := first | exact dq | fail) only [go_sem])); try (simp (disch := first | exact dq | fail) only [go_sem]))
  (repeat' (first
    | ((first | with_reducible (first | refine aw_seq ?_ | refine aw_region (aops_run ?_)) | (with_reducible refine aw_regionD (fun _ => .p) mixed ?_ (dops_run ?_); (· kernel_rfl)) | (with_reducible refine aw_regionD (fun _ => .r) mixed ?_ (dops_run ?_); (· kernel_rfl)) | with_reducible (first | refine aw_condK ?_ | refine aw_skip ?_ | refine aw_ret ?_ | refine aw_exit ?_ | refine aw_label ?_ | refine aw_block ?_ | refine aw_scope ?_ | refine And.intro ?_ ?_)) <;> (try (simp (disch := first | exact dq | fail) only [go_sem])))
    | (with_reducible (first | refine wantK_split (fun h => ?_) (fun h => ?_) | refine condK_split (fun h => ?_) (fun h => ?_) | refine pickV_split (fun h => ?_) (fun h => ?_)) <;> (try (simp (disch := first | exact dq | fail) only [go_sem] at h)) <;> (try (simp (disch := first | exact dq | fail) only [go_sem, h])))))
  (repeat' (first
    | ((first | with_reducible (first | refine aw_seq ?_ | refine aw_region (aops_run ?_)) | (with_reducible refine aw_regionD (fun _ => .p) mixed ?_ (dops_run ?_); (· kernel_rfl)) | (with_reducible refine aw_regionD (fun _ => .r) mixed ?_ (dops_run ?_); (· kernel_rfl)) | with_reducible (first | refine aw_condK ?_ | refine aw_skip ?_ | refine aw_ret ?_ | refine aw_exit ?_ | refine aw_label ?_ | refine aw_block ?_ | refine aw_scope ?_ | refine And.intro ?_ ?_ | refine aw_rounds 64 ?_ | refine awN_step ?_)) <;> (try (simp (disch := first | exact dq | fail) only [go_sem])))
    | (with_reducible (first | refine wantK_split (fun h => ?_) (fun h => ?_) | refine condK_split (fun h => ?_) (fun h => ?_) | refine pickV_split (fun h => ?_) (fun h => ?_)) <;> (try (simp (disch := first | exact dq | fail) only [go_sem] at h)) <;> (try (simp (disch := first | exact dq | fail) only [go_sem, h])))))
  refine fin_k [0] ?_
  (simp (disch := first | exact dq | fail) only [go_sem])
theorem SortE (g : Nat) (T : TypeId) (c : IV) : MCalls Try.prog 65 [.iv (inl []), .fn g [.mp 0 0]] [.var T [.iv c]] (.tup []) [.var T [.iv c]] := by
  refine MCalls.of_aw Try.func65 rfl (by unfold Callable; kernel_rfl) (by kernel_rfl) (by simp [Try.ntmps65]) (by (simp (disch := first | exact dq | fail) only [go_sem])) ?_; rw [Try.ntmps65, Try.results65]; (simp (disch := first | exact dq | fail) only [go_sem])
  (repeat' (first
    | ((first | with_reducible (first | refine aw_seq ?_ | refine aw_region (aops_run ?_)) | (with_reducible refine aw_regionD (fun _ => .p) mixed ?_ (dops_run ?_); (· kernel_rfl)) | (with_reducible refine aw_regionD (fun _ => .r) mixed ?_ (dops_run ?_); (· kernel_rfl)) | with_reducible (first | refine aw_condK ?_ | refine aw_skip ?_ | refine aw_ret ?_ | refine aw_exit ?_ | refine aw_label ?_ | refine aw_block ?_ | refine aw_scope ?_ | refine And.intro ?_ ?_)) <;> (try (simp (disch := first | exact dq | fail) only [go_sem])))
    | (with_reducible (first | refine wantK_split (fun h => ?_) (fun h => ?_) | refine condK_split (fun h => ?_) (fun h => ?_) | refine pickV_split (fun h => ?_) (fun h => ?_)) <;> (try (simp (disch := first | exact dq | fail) only [go_sem] at h)) <;> (try (simp (disch := first | exact dq | fail) only [go_sem, h])))))
  ((first | with_reducible refine left_callMs [0] (stableE g T c) ?_ ?_ | with_reducible refine leftD_callMs [0] rfl (stableE g T c) ?_ ?_ | with_reducible refine leftD_callRs [0] (by decide) (stableE g T c) ?_ ?_); (· (simp (disch := first | exact dq | fail) only [go_sem])); try (simp (disch := first | exact dq | fail) only [go_sem]))
  (repeat' (first
    | ((first | with_reducible (first | refine aw_seq ?_ | refine aw_region (aops_run ?_)) | (with_reducible refine aw_regionD (fun _ => .p) mixed ?_ (dops_run ?_); (· kernel_rfl)) | (with_reducible refine aw_regionD (fun _ => .r) mixed ?_ (dops_run ?_); (· kernel_rfl)) | with_reducible (first | refine aw_condK ?_ | refine aw_skip ?_ | refine aw_ret ?_ | refine aw_exit ?_ | refine aw_label ?_ | refine aw_block ?_ | refine aw_scope ?_ | refine And.intro ?_ ?_)) <;> (try (simp (disch := first | exact dq | fail) only [go_sem])))
    | (with_reducible (first | refine wantK_split (fun h => ?_) (fun h => ?_) | refine condK_split (fun h => ?_) (fun h => ?_) | refine pickV_split (fun h => ?_) (fun h => ?_)) <;> (try (simp (disch := first | exact dq | fail) only [go_sem] at h)) <;> (try (simp (disch := first | exact dq | fail) only [go_sem, h])))))
  refine fin_k [0] ?_
  (simp (disch := first | exact dq | fail) only [go_sem])
def cS (s : Nat) (x y : Int) : Int := IntKind.i64.wrap (x / 2 ^ s - y / 2 ^ s)
theorem fdiv_s (x : Int) (s : Nat) (hs : s ≤ 62) : x.fdiv (2 ^ min s 64) = x / 2 ^ s := by
  rw [show min s 64 = s by omega, Int.fdiv_eq_ediv_of_nonneg _ (Int.pow_nonneg (by decide))]
theorem cmpS (x y : Int) (s : Nat) (hs : s ≤ 62) : MCalls Try.prog 66 [.iv (.int .i64 x), .iv (.int .i64 y), .mp 0 0] [.var 3 [.iv (.int .i64 s)]] (.iv (.int .i64 (cS s x y))) [.var 3 [.iv (.int .i64 s)]] := by
  refine MCalls.of_aw Try.func66 rfl (by unfold Callable; kernel_rfl) (by kernel_rfl) (by simp [Try.ntmps66]) (by (simp (disch := first | exact dq | fail) only [go_sem])) ?_; rw [Try.ntmps66, Try.results66]; (simp (disch := first | exact dq | fail) only [go_sem])
  (repeat' (first
    | ((first | with_reducible (first | refine aw_seq ?_ | refine aw_region (aops_run ?_)) | (with_reducible refine aw_regionD (fun _ => .p) mixed ?_ (dops_run ?_); (· kernel_rfl)) | (with_reducible refine aw_regionD (fun _ => .r) mixed ?_ (dops_run ?_); (· kernel_rfl)) | with_reducible (first | refine aw_condK ?_ | refine aw_skip ?_ | refine aw_ret ?_ | refine aw_exit ?_ | refine aw_label ?_ | refine aw_block ?_ | refine aw_scope ?_ | refine And.intro ?_ ?_)) <;> (try (simp (disch := first | exact dq | fail) only [go_sem])))
    | (with_reducible (first | refine wantK_split (fun h => ?_) (fun h => ?_) | refine condK_split (fun h => ?_) (fun h => ?_) | refine pickV_split (fun h => ?_) (fun h => ?_)) <;> (try (simp (disch := first | exact dq | fail) only [go_sem] at h)) <;> (try (simp (disch := first | exact dq | fail) only [go_sem, h])))))
  all_goals (try omega)
  refine fin_k [0] ?_
  (simp (disch := first | exact dq | fail) only [go_sem])
  rw [fdiv_s _ _ hs, fdiv_s _ _ hs]; rfl
def ptK (l : List Int) (s : Nat) (i : Nat) : Nat := sy l i / 2 ^ s
def Sym (l : List Int) : Prop := ∀ x ∈ l, 0 ≤ x ∧ x.toNat < 4611686018427387904
theorem Sym.at_ {l : List Int} (h : Sym l) (i : Nat) : 0 ≤ l.getD i 0 ∧ (l.getD i 0).toNat < 4611686018427387904 := by
  by_cases hi : i < l.length
  · exact h _ (getD_mem hi)
  · have : l.getD i 0 = 0 := by simp [List.getD, List.getElem?_eq_none (Nat.le_of_not_lt hi)]
    rw [this]; decide
theorem cS_lt {l : List Int} (h : Sym l) (s i j : Nat) : cS s (l.getD i 0) (l.getD j 0) < 0 ↔ (ptK l s i : Int) < (ptK l s j : Int) := by
  have key : ∀ i, l.getD i 0 / 2 ^ s = (ptK l s i : Int) := fun i => by
    have := h.at_ i
    unfold ptK sy
    rw [Int.natCast_ediv, Int.natCast_pow, Int.toNat_of_nonneg this.1]; rfl
  have le : ∀ i, ptK l s i ≤ 4611686018427387904 := fun i => Nat.le_trans (Nat.div_le_self _ _) (Nat.le_of_lt (h.at_ i).2)
  have a := le i
  have b := le j
  unfold cS
  rw [key, key, wrapS ⟨by omega, by omega⟩]
  omega
def prtL (l : List Int) (s : Nat) : List Int := pickL (stabG (ptK l s) l.length) l
set_option maxHeartbeats 1000000 in
theorem parted_spec (l : List Int) (s : Nat) (hs : s ≤ 62) (hl : l.length ≤ 500000) (hy : Sym l) : PCalls Try.prog 44 [inl l, .int .i64 s] (inl (prtL l s)) := by
  by_cases h0 : l = []
  · subst h0
    have hE := SortE 66 3 (.int .i64 s)
    refine PCalls.of_aw Try.func44 rfl (by unfold Callable; kernel_rfl) (by kernel_rfl) (by simp [Try.ntmps44]) ?_; rw [Try.ntmps44, Try.results44]; (simp (maxSteps := 1000000) (disch := first | exact dq | fail) only [go_sem])
    (repeat' (first
    | ((first | with_reducible (first | refine aw_seq ?_ | refine aw_region (aops_run ?_)) | (with_reducible refine aw_regionD (fun _ => .p) mixed ?_ (dops_run ?_); (· kernel_rfl)) | (with_reducible refine aw_regionD (fun _ => .r) mixed ?_ (dops_run ?_); (· kernel_rfl)) | with_reducible (first | refine aw_condK ?_ | refine aw_skip ?_ | refine aw_ret ?_ | refine aw_exit ?_ | refine aw_label ?_ | refine aw_block ?_ | refine aw_scope ?_ | refine And.intro ?_ ?_)) <;> (try (simp (maxSteps := 1000000) (disch := first | exact dq | fail) only [go_sem])))
    | (with_reducible (first | refine wantK_split (fun h => ?_) (fun h => ?_) | refine condK_split (fun h => ?_) (fun h => ?_) | refine pickV_split (fun h => ?_) (fun h => ?_)) <;> (try (simp (maxSteps := 1000000) (disch := first | exact dq | fail) only [go_sem] at h)) <;> (try (simp (maxSteps := 1000000) (disch := first | exact dq | fail) only [go_sem, h])))))
    ((first | with_reducible apply left_callf | with_reducible apply leftD_callf | with_reducible apply leftF_callf); (· with_reducible rfl); (· (simp (maxSteps := 1000000) (disch := first | exact dq | fail) only [go_sem]) <;> rfl); (· exact Clone_e); try (simp (maxSteps := 1000000) (disch := first | exact dq | fail) only [go_sem]))
    (repeat' (first
    | ((first | with_reducible (first | refine aw_seq ?_ | refine aw_region (aops_run ?_)) | (with_reducible refine aw_regionD (fun _ => .p) mixed ?_ (dops_run ?_); (· kernel_rfl)) | (with_reducible refine aw_regionD (fun _ => .r) mixed ?_ (dops_run ?_); (· kernel_rfl)) | with_reducible (first | refine aw_condK ?_ | refine aw_skip ?_ | refine aw_ret ?_ | refine aw_exit ?_ | refine aw_label ?_ | refine aw_block ?_ | refine aw_scope ?_ | refine And.intro ?_ ?_)) <;> (try (simp (maxSteps := 1000000) (disch := first | exact dq | fail) only [go_sem])))
    | (with_reducible (first | refine wantK_split (fun h => ?_) (fun h => ?_) | refine condK_split (fun h => ?_) (fun h => ?_) | refine pickV_split (fun h => ?_) (fun h => ?_)) <;> (try (simp (maxSteps := 1000000) (disch := first | exact dq | fail) only [go_sem] at h)) <;> (try (simp (maxSteps := 1000000) (disch := first | exact dq | fail) only [go_sem, h])))))
    ((first | with_reducible refine left_callMs [0] (hE) ?_ ?_ | with_reducible refine leftD_callMs [0] rfl (hE) ?_ ?_ | with_reducible refine leftD_callRs [0] (by decide) (hE) ?_ ?_); (· (simp (maxSteps := 1000000) (disch := first | exact dq | fail) only [go_sem])); try (simp (maxSteps := 1000000) (disch := first | exact dq | fail) only [go_sem]))
    (repeat' (first
    | ((first | with_reducible (first | refine aw_seq ?_ | refine aw_region (aops_run ?_)) | (with_reducible refine aw_regionD (fun _ => .p) mixed ?_ (dops_run ?_); (· kernel_rfl)) | (with_reducible refine aw_regionD (fun _ => .r) mixed ?_ (dops_run ?_); (· kernel_rfl)) | with_reducible (first | refine aw_condK ?_ | refine aw_skip ?_ | refine aw_ret ?_ | refine aw_exit ?_ | refine aw_label ?_ | refine aw_block ?_ | refine aw_scope ?_ | refine And.intro ?_ ?_)) <;> (try (simp (maxSteps := 1000000) (disch := first | exact dq | fail) only [go_sem])))
    | (with_reducible (first | refine wantK_split (fun h => ?_) (fun h => ?_) | refine condK_split (fun h => ?_) (fun h => ?_) | refine pickV_split (fun h => ?_) (fun h => ?_)) <;> (try (simp (maxSteps := 1000000) (disch := first | exact dq | fail) only [go_sem] at h)) <;> (try (simp (maxSteps := 1000000) (disch := first | exact dq | fail) only [go_sem, h])))))
    rfl
  have hpos : 0 < l.length := List.length_pos_iff.2 h0
  have hC : CmpF 66 3 (.int .i64 s) (cS s) (fun i => l.getD i 0) (fun i => (ptK l s i : Int)) := ⟨fun x y => cmpS x y s hs, fun i j => cS_lt hy s i j⟩
  have hS := SortStable_spec hC l.length hl
  have hc := Clone_M l hpos (by omega)
  rw [rowF_of] at hc
  refine PCalls.of_aw Try.func44 rfl (by unfold Callable; kernel_rfl) (by kernel_rfl) (by simp [Try.ntmps44]) ?_; rw [Try.ntmps44, Try.results44]; (simp (maxSteps := 1000000) (disch := first | exact dq | fail) only [go_sem])
  (repeat' (first
    | ((first | with_reducible (first | refine aw_seq ?_ | refine aw_region (aops_run ?_)) | (with_reducible refine aw_regionD (fun _ => .p) mixed ?_ (dops_run ?_); (· kernel_rfl)) | (with_reducible refine aw_regionD (fun _ => .r) mixed ?_ (dops_run ?_); (· kernel_rfl)) | with_reducible (first | refine aw_condK ?_ | refine aw_skip ?_ | refine aw_ret ?_ | refine aw_exit ?_ | refine aw_label ?_ | refine aw_block ?_ | refine aw_scope ?_ | refine And.intro ?_ ?_)) <;> (try (simp (maxSteps := 1000000) (disch := first | exact dq | fail) only [go_sem])))
    | (with_reducible (first | refine wantK_split (fun h => ?_) (fun h => ?_) | refine condK_split (fun h => ?_) (fun h => ?_) | refine pickV_split (fun h => ?_) (fun h => ?_)) <;> (try (simp (maxSteps := 1000000) (disch := first | exact dq | fail) only [go_sem] at h)) <;> (try (simp (maxSteps := 1000000) (disch := first | exact dq | fail) only [go_sem, h])))))
  ((first | with_reducible refine left_callMs [] (hc) ?_ ?_ | with_reducible refine leftD_callMs [] rfl (hc) ?_ ?_ | with_reducible refine leftD_callRs [] (by decide) (hc) ?_ ?_); (· (simp (maxSteps := 1000000) (disch := first | exact dq | fail) only [go_sem])); try (simp (maxSteps := 1000000) (disch := first | exact dq | fail) only [go_sem]))
  (repeat' (first
    | ((first | with_reducible (first | refine aw_seq ?_ | refine aw_region (aops_run ?_)) | (with_reducible refine aw_regionD (fun _ => .p) mixed ?_ (dops_run ?_); (· kernel_rfl)) | (with_reducible refine aw_regionD (fun _ => .r) mixed ?_ (dops_run ?_); (· kernel_rfl)) | with_reducible (first | refine aw_condK ?_ | refine aw_skip ?_ | refine aw_ret ?_ | refine aw_exit ?_ | refine aw_label ?_ | refine aw_block ?_ | refine aw_scope ?_ | refine And.intro ?_ ?_)) <;> (try (simp (maxSteps := 1000000) (disch := first | exact dq | fail) only [go_sem])))
    | (with_reducible (first | refine wantK_split (fun h => ?_) (fun h => ?_) | refine condK_split (fun h => ?_) (fun h => ?_) | refine pickV_split (fun h => ?_) (fun h => ?_)) <;> (try (simp (maxSteps := 1000000) (disch := first | exact dq | fail) only [go_sem] at h)) <;> (try (simp (maxSteps := 1000000) (disch := first | exact dq | fail) only [go_sem, h])))))
  ((with_reducible refine left_callRs [2, 0] (hS) ?_ ?_); (· (simp (maxSteps := 1000000) (disch := first | exact dq | fail) only [go_sem])))
  rintro r M' ⟨τ, rfl, rfl, h1, h2⟩
  have ht := stable_stab h1 h2
  have hr : inl (prtL l s) = .sl 1 (rowF l.length (fun k => l.getD (τ k) 0)) := by
    rw [rowF_inl]
    unfold prtL pickL
    rw [← ht, List.map_map]; rfl
  have hlf := rowF_len l.length (fun k => l.getD (τ k) 0)
  (simp (maxSteps := 1000000) (disch := first | exact dq | fail) only [go_sem])
  (repeat' (first
    | ((first | with_reducible (first | refine aw_seq ?_ | refine aw_region (aops_run ?_)) | (with_reducible refine aw_regionD (fun _ => .p) mixed ?_ (dops_run ?_); (· kernel_rfl)) | (with_reducible refine aw_regionD (fun _ => .r) mixed ?_ (dops_run ?_); (· kernel_rfl)) | with_reducible (first | refine aw_condK ?_ | refine aw_skip ?_ | refine aw_ret ?_ | refine aw_exit ?_ | refine aw_label ?_ | refine aw_block ?_ | refine aw_scope ?_ | refine And.intro ?_ ?_)) <;> (try (simp (maxSteps := 1000000) (disch := first | exact dq | fail) only [go_sem, hlf])))
    | (with_reducible (first | refine wantK_split (fun h => ?_) (fun h => ?_) | refine condK_split (fun h => ?_) (fun h => ?_) | refine pickV_split (fun h => ?_) (fun h => ?_)) <;> (try (simp (maxSteps := 1000000) (disch := first | exact dq | fail) only [go_sem] at h)) <;> (try (simp (maxSteps := 1000000) (disch := first | exact dq | fail) only [go_sem, h, hlf])))))
  all_goals (try omega)
  all_goals (rw [List.take_of_length_le (Nat.le_of_eq hlf)]; exact congrArg some hr.symm)
def lvl (l : List Int) (W k : Nat) : List Int := pickL (stabG (wK l W k) l.length) l
theorem lvl_len (l : List Int) (W k : Nat) : (lvl l W k).length = l.length := by unfold lvl pickL; rw [List.length_map, stabG_len]
theorem stab_zero (n : Nat) : stabG (fun _ => 0) n = idL n := by
  refine (stab_unique (List.Perm.refl _) (fun i a b hi ha hb => ?_)).symm
  rw [idL_get (by omega)] at ha hb
  exact .inr ⟨rfl, by omega⟩
theorem lvl_zero (l : List Int) (W : Nat) : lvl l W 0 = l := by
  unfold lvl
  rw [show wK l W 0 = fun _ => 0 from rfl, stab_zero]
  apply List.ext_getElem (by simp [pickL, idL])
  intro i h1 h2
  simp [pickL, idL, List.getD, List.getElem?_eq_getElem h2]
theorem lvl_at (l : List Int) (W k : Nat) {p q : Nat} (hp : p < l.length) (h : (stabG (wK l W k) l.length).getD p 0 = (q : Int)) : (lvl l W k).getD p 0 = l.getD q 0 := by
  unfold lvl
  rw [pickL_get (by rw [stabG_len]; exact hp), h, Int.toNat_natCast]
theorem wK_half (l : List Int) (W k i : Nat) : wK l W (k + 1) i / 2 = wK l W k i := by
  rw [wK_succ]; unfold nxtK; split <;> omega
theorem stab_lex (K : Nat → Nat) {n i j a b : Nat} (hij : i < j) (hj : j < n) (ha : (stabG K n).getD i 0 = (a : Int)) (hb : (stabG K n).getD j 0 = (b : Int)) : K a < K b ∨ K a = K b ∧ a < b := by
  obtain ⟨a', h1, h2, h3⟩ := stabG_who K (show i < n by omega)
  obtain ⟨b', h4, h5, h6⟩ := stabG_who K hj
  obtain rfl : a = a' := by omega
  obtain rfl : b = b' := by omega
  exact posK_lex h2 h5 (by omega)
theorem stab_perm (K : Nat → Nat) (n : Nat) : (stabG K n).Perm (idL n) := by
  have := allB_perm (stabG_all K n)
  rwa [stabG_len] at this
theorem pick_idL (m : List Int) : pickL (idL m.length) m = m := by
  apply List.ext_getElem (by simp [pickL, idL])
  intro i h1 h2
  simp [pickL, idL, List.getD, List.getElem?_eq_getElem h2]
theorem pick_perm {p m : List Int} (h : p.Perm (idL m.length)) : (pickL p m).Perm m := by
  have := h.map fun i => m.getD i.toNat 0
  rw [show (idL m.length).map (fun i => m.getD i.toNat 0) = m from pick_idL m] at this
  exact this
theorem pick_pick {p q m : List Int} (hp : ∀ x ∈ p, x.toNat < q.length) : pickL p (pickL q m) = pickL (pickL p q) m := by
  unfold pickL
  rw [List.map_map]
  refine List.map_congr_left (fun x hx => ?_)
  have := hp x hx
  simp [List.getD, List.getElem?_eq_getElem this]
theorem lvl_succ {l : List Int} {W k : Nat} (hk : k < W) (hs : ∀ x ∈ l, 0 ≤ x ∧ x.toNat < 2 ^ W) : prtL (lvl l W k) (W - 1 - k) = lvl l W (k + 1) := by
  have hlen := lvl_len l W k
  unfold prtL
  rw [hlen]
  obtain ⟨D, hD⟩ : ∃ D, D = stabG (wK l W k) l.length := ⟨_, rfl⟩
  obtain ⟨E, hE⟩ : ∃ E, E = stabG (ptK (lvl l W k) (W - 1 - k)) l.length := ⟨_, rfl⟩
  have hDl : D.length = l.length := by rw [hD, stabG_len]
  have hEl : E.length = l.length := by rw [hE, stabG_len]
  have hEp : E.Perm (idL l.length) := hE ▸ stab_perm _ _
  have hDp : D.Perm (idL l.length) := hD ▸ stab_perm _ _
  rw [← hE]
  have hl : lvl l W k = pickL D l := by rw [hD]; rfl
  rw [hl, pick_pick (fun x hx => by
    rw [hDl]
    obtain ⟨j, hj, rfl⟩ := mem_idL.1 (hEp.mem_iff.1 hx)
    simpa using hj)]
  unfold lvl
  congr 1
  have key : ∀ p q, p < l.length → D.getD p 0 = ((q : Nat) : Int) → q < l.length → ptK (lvl l W k) (W - 1 - k) p = wK l W (k + 1) q := by
    intro p q hp e hq
    unfold ptK sy
    rw [lvl_at l W k hp (hD ▸ e)]
    have := levK_of (s := sy l) (hs _ (getD_mem hq)).2 (k + 1) (by omega)
    unfold wK
    rw [this, show W - 1 - k = W - (k + 1) by omega]; rfl
  refine stab_unique ?_ (fun i a b hi ha hb => ?_)
  · refine (pick_perm (m := D) ?_).trans hDp
    rw [hDl]; exact hEp
  · rw [pickL_get (by omega)] at ha hb
    obtain ⟨x, hx, hxl, _⟩ := stabG_who (ptK (lvl l W k) (W - 1 - k)) (n := l.length) (p := i) (by omega)
    obtain ⟨y, hy, hyl, _⟩ := stabG_who (ptK (lvl l W k) (W - 1 - k)) (n := l.length) (p := i + 1) hi
    have hxy := (stabG_next _ hi hx hy).2.2
    rw [hE, hx, Int.toNat_natCast] at ha
    rw [hE, hy, Int.toNat_natCast] at hb
    have inr : ∀ p q, p < l.length → D.getD p 0 = ((q : Nat) : Int) → q < l.length := by
      intro p q hp e
      obtain ⟨q', h1, h2, _⟩ := stabG_who (wK l W k) hp
      rw [← hD] at h1
      omega
    have ka := key x a hxl ha (inr x a hxl ha)
    have kb := key y b hyl hb (inr y b hyl hb)
    rcases hxy with g | ⟨g, g'⟩
    · left; omega
    · right
      refine ⟨by omega, ?_⟩
      have := stab_lex (wK l W k) g' hyl (hD ▸ ha) (hD ▸ hb)
      have h1 := wK_half l W k a
      have h2 := wK_half l W k b
      rw [← ka, ← kb, g] at *
      omega
end Go.Proofs.Ytkfjldkememadaa.AM
