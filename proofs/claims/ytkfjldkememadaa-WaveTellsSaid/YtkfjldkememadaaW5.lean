
/- Chapter 4: Distinct. No condition but lengths that fit. -/
import Derived.Test.YtkfjldkememadaaV7
set_option linter.unusedVariables false
set_option linter.unusedSimpArgs false
set_option maxRecDepth 20000
namespace Go.Proofs.Ytkfjldkememadaa.AM
open Go Go.RowKit

def dstR (p : Nat → Bool) : Nat → Nat → List Int
  | 0, v => if p v = true then [(v : Int)] else []
  | d + 1, v => dstR p d (2 * v) ++ dstR p d (2 * v + 1)
theorem dstR_flat (p : Nat → Bool) : ∀ d v, dstR p d v = ((List.range (2 ^ d)).filter (fun j => p (v * 2 ^ d + j))).map (fun j => ((v * 2 ^ d + j : Nat) : Int))
  | 0, v => by
    rw [dstR]
    simp only [Nat.pow_zero, Nat.mul_one]
    by_cases h : p v = true
    · rw [if_pos h]; simp [List.range_one, h]
    · rw [if_neg h]; simp [List.range_one, h]
  | d + 1, v => by
    rw [dstR, dstR_flat p d (2 * v), dstR_flat p d (2 * v + 1), show 2 ^ (d + 1) = 2 ^ d + 2 ^ d by omega, List.range_add, List.filter_append, List.map_append, List.filter_map, List.map_map]
    have e1 : ∀ j, 2 * v * 2 ^ d + j = v * (2 ^ d + 2 ^ d) + j := fun j => by rw [Nat.mul_assoc, Nat.mul_add]; omega
    have e2 : ∀ j, (2 * v + 1) * 2 ^ d + j = v * (2 ^ d + 2 ^ d) + (2 ^ d + j) := fun j => by rw [Nat.add_mul, Nat.mul_assoc, Nat.mul_add, Nat.one_mul]; omega
    congr 1
    · simp only [e1]
    · simp only [e2]; rfl
def inR (l : List Int) (a b c : Nat) : Bool := decide (cN (sy l) c a < cN (sy l) c b)
def distL (l : List Int) (W a b : Nat) : List Int := ((List.range (2 ^ W)).filter (inR l a b)).map (fun (c : Nat) => (c : Int))
theorem dst_all (l : List Int) (W a b : Nat) : dstR (inR l a b) W 0 = distL l W a b := by
  rw [dstR_flat]
  unfold distL
  simp only [Nat.zero_mul, Nat.zero_add]
theorem dst_nil {l : List Int} {W : Nat} {rows : List (List Bool)} (hw : WOk l W rows) {a b : Nat} (hab : a ≤ b) (hb : b ≤ l.length) : ∀ d k v, k + d = W → cN (wK l W k) v b ≤ cN (wK l W k) v a → dstR (inR l a b) d v = []
  | 0, k, v, hk, h => by
    obtain rfl : k = W := by omega
    rw [hw.cnt v hb, hw.cnt v (by omega)] at h
    rw [dstR, if_neg]
    unfold inR
    simp; exact h
  | d + 1, k, v, hk, h => by
    have h1 := cN_two (wK l W k) (bitN W (sy l) k) v a
    have h2 := cN_two (wK l W k) (bitN W (sy l) k) v b
    have hnk : nxtK (wK l W k) (bitN W (sy l) k) = wK l W (k + 1) := rfl
    rw [hnk] at h1 h2
    have m1 := cN_mono (wK l W (k + 1)) (2 * v) hab
    have m2 := cN_mono (wK l W (k + 1)) (2 * v + 1) hab
    rw [dstR, dst_nil hw hab hb d (k + 1) (2 * v) (by omega) (by omega), dst_nil hw hab hb d (k + 1) (2 * v + 1) (by omega) (by omega)]
    rfl
def disM (n : Nat) (size : Int) (rows : List (List Bool)) (out : List Int) : List MO := [.var 29 [.iv (.int .i64 n), .iv (.int .i64 size), .iv (.sl 7 (rows.map rankV))], .var 22 [.msl 3 0 out.length out.length],
  .var 81 [.fn 54 [.mp 0 0, .mp 1 0, .mp 2 0]], .row true 3 1 (out.map (IV.int .i64))]
theorem dis_small (n : Nat) (size : Int) (rows : List (List Bool)) (out : List Int) (r c f t x y : Int) (h : y ≤ x) :
    MCalls Try.prog 54 [.iv (.int .i64 r), .iv (.int .i64 c), .iv (.agg [.int .i64 f, .int .i64 t]), .iv (.int .i64 x), .iv (.int .i64 y), .mp 0 0, .mp 1 0, .mp 2 0] (disM n size rows out) (.tup []) (disM n size rows out) := by
  have hc : x ≥ y := h
  refine MCalls.of_aw Try.func54 rfl (by unfold Callable; kernel_rfl) (by kernel_rfl) (by simp [Try.ntmps54]) (by (simp (disch := first | exact dq | fail) only [go_sem, disM])) ?_; rw [Try.ntmps54, Try.results54]; (simp (disch := first | exact dq | fail) only [go_sem, disM])
  (repeat' (first
    | ((first | with_reducible (first | refine aw_seq ?_ | refine aw_region (aops_run ?_)) | (with_reducible refine aw_regionD (fun _ => .p) mixed ?_ (dops_run ?_); (· kernel_rfl)) | (with_reducible refine aw_regionD (fun _ => .r) mixed ?_ (dops_run ?_); (· kernel_rfl)) | with_reducible (first | refine aw_condK ?_ | refine aw_skip ?_ | refine aw_ret ?_ | refine aw_exit ?_ | refine aw_label ?_ | refine aw_block ?_ | refine aw_scope ?_ | refine And.intro ?_ ?_)) <;> (try (simp (disch := first | exact dq | fail) only [go_sem, hc, decide_true])))
    | (with_reducible (first | refine wantK_split (fun h => ?_) (fun h => ?_) | refine condK_split (fun h => ?_) (fun h => ?_) | refine pickV_split (fun h => ?_) (fun h => ?_)) <;> (try (simp (disch := first | exact dq | fail) only [go_sem] at h)) <;> (try (simp (disch := first | exact dq | fail) only [go_sem, h, hc, decide_true])))))
  all_goals (try omega)
  refine fin_k [0, 1, 2, 3] ?_
  (simp (disch := first | exact dq | fail) only [go_sem, disM])
theorem dis_leaf (n : Nat) (size : Int) (rows : List (List Bool)) (out : List Int) (hl : out.length ≤ 100000000) (c f t x y : Int) (h : x < y) :
    MCalls Try.prog 54 [.iv (.int .i64 rows.length), .iv (.int .i64 c), .iv (.agg [.int .i64 f, .int .i64 t]), .iv (.int .i64 x), .iv (.int .i64 y), .mp 0 0, .mp 1 0, .mp 2 0] (disM n size rows out) (.tup []) (disM n size rows (out ++ [c])) := by
  have hc : ¬ (x ≥ y) := by omega
  refine MCalls.of_aw Try.func54 rfl (by unfold Callable; kernel_rfl) (by kernel_rfl) (by simp [Try.ntmps54]) (by (simp (disch := first | exact dq | fail) only [go_sem, disM])) ?_; rw [Try.ntmps54, Try.results54]; (simp (disch := first | exact dq | fail) only [go_sem, disM])
  (repeat' (first
    | ((first | with_reducible (first | refine aw_seq ?_ | refine aw_region (aops_run ?_)) | (with_reducible refine aw_regionD (fun _ => .p) mixed ?_ (dops_run ?_); (· kernel_rfl)) | (with_reducible refine aw_regionD (fun _ => .r) mixed ?_ (dops_run ?_); (· kernel_rfl)) | with_reducible (first | refine aw_condK ?_ | refine aw_skip ?_ | refine aw_ret ?_ | refine aw_exit ?_ | refine aw_label ?_ | refine aw_block ?_ | refine aw_scope ?_ | refine And.intro ?_ ?_)) <;> (try (simp (disch := first | exact dq | fail) only [go_sem, hc, decide_false, decide_true, eq_self])))
    | (with_reducible (first | refine wantK_split (fun h => ?_) (fun h => ?_) | refine condK_split (fun h => ?_) (fun h => ?_) | refine pickV_split (fun h => ?_) (fun h => ?_)) <;> (try (simp (disch := first | exact dq | fail) only [go_sem] at h)) <;> (try (simp (disch := first | exact dq | fail) only [go_sem, h, hc, decide_false, decide_true, eq_self])))))
  all_goals (try omega)
  refine fin_k [0, 1, 2, 3] ?_
  (simp (disch := first | exact dq | fail) only [go_sem, disM, List.length_append, List.length_cons, List.length_nil, List.map_append])
theorem dstR_len (p : Nat → Bool) : ∀ d v, (dstR p d v).length ≤ 2 ^ d
  | 0, v => by rw [dstR]; split <;> simp
  | d + 1, v => by
    have h1 := dstR_len p d (2 * v)
    have h2 := dstR_len p d (2 * v + 1)
    rw [dstR, List.length_append, Nat.pow_succ]; omega
set_option maxHeartbeats 4000000 in
theorem dis_rec {l : List Int} {W : Nat} {rows : List (List Bool)} (hw : WOk l W rows) (size : Int) (hW : W ≤ 20) (hn : l.length ≤ 1000000) {a b : Nat} (hab : a ≤ b) (hb : b ≤ l.length) :
    ∀ (d k v : Nat), k + d = W → v < 2 ^ k → ∀ (out : List Int), out.length + 2 ^ d ≤ 4000000 → ∀ (r c f t x y : Int), r = (k : Int) → c = (v : Int) → f = (cL (wK l W k) v l.length : Nat) → t = (cL (wK l W k) (v + 1) l.length : Nat) → x = (plc (wK l W k) l.length v a : Nat) → y = (plc (wK l W k) l.length v b : Nat) →
    MCalls Try.prog 54 [.iv (.int .i64 r), .iv (.int .i64 c), .iv (.agg [.int .i64 f, .int .i64 t]), .iv (.int .i64 x), .iv (.int .i64 y), .mp 0 0, .mp 1 0, .mp 2 0] (disM l.length size rows out) (.tup []) (disM l.length size rows (out ++ dstR (inR l a b) d v)) := by
  intro d
  have hlen := hw.len
  induction d with
  | zero =>
    rintro k v hk hv out ho r c f t x y rfl rfl rfl rfl rfl rfl
    obtain rfl : k = W := by omega
    by_cases h : (plc (wK l k k) l.length v b : Nat) ≤ plc (wK l k k) l.length v a
    · rw [dst_nil hw hab hb 0 k v (by omega) (by unfold plc at h; omega), List.append_nil]
      exact dis_small _ _ _ _ _ _ _ _ _ _ (by omega)
    · have hin : inR l a b v = true := by
        unfold inR
        rw [decide_eq_true_eq, ← hw.cnt v hb, ← hw.cnt v (show a ≤ l.length by omega)]
        unfold plc at h
        omega
      rw [dstR, if_pos hin]
      have := dis_leaf l.length size rows out (by omega) v (cL (wK l k k) v l.length : Nat) (cL (wK l k k) (v + 1) l.length : Nat) (plc (wK l k k) l.length v a : Nat) (plc (wK l k k) l.length v b : Nat) (by omega)
      rw [hlen] at this
      exact this
  | succ d ih =>
    rintro k v hk hv out ho r c f t x y rfl rfl rfl rfl rfl rfl
    by_cases h : (plc (wK l W k) l.length v b : Nat) ≤ plc (wK l W k) l.length v a
    · rw [dst_nil hw hab hb (d + 1) k v (by omega) (by unfold plc at h; omega), List.append_nil]
      exact dis_small _ _ _ _ _ _ _ _ _ _ (by omega)
    have hB := @WOk.at_ _ _ _ hw k (by omega)
    have hc : ¬ ((plc (wK l W k) l.length v a : Nat) : Int) ≥ (plc (wK l W k) l.length v b : Nat) := by omega
    have hc2 : ¬ ((k : Int) = (W : Int)) := by omega
    have hnk : nxtK (wK l W k) (bitN W (sy l) k) = wK l W (k + 1) := rfl
    have hD := fun β => down_spec (wK l W k) (bitN W (sy l) k) l.length v β (by omega)
    have hPa := fun β => place_spec (wK l W k) (bitN W (sy l) k) l.length v a β (by omega) (by omega)
    have hPb := fun β => place_spec (wK l W k) (bitN W (sy l) k) l.length v b β (by omega) (by omega)
    simp only [hnk] at hD hPa hPb
    unfold prt partV at hD hPa hPb
    have hv2 : 2 ^ (k + 1) = 2 * 2 ^ k := by rw [Nat.pow_succ]; omega
    have hd2 : 2 ^ (d + 1) = 2 * 2 ^ d := by rw [Nat.pow_succ]; omega
    have hk20 : 2 ^ k ≤ 2 ^ 20 := Nat.pow_le_pow_right (by decide) (by omega)
    have hl0 := dstR_len (inR l a b) d (2 * v)
    have hI0 := ih (k + 1) (2 * v) (by omega) (by omega) out (by omega) ((k : Int) + 1) (2 * (v : Int)) _ _ _ _ (by omega) (by omega) rfl rfl rfl rfl
    have hI1 := ih (k + 1) (2 * v + 1) (by omega) (by omega) (out ++ dstR (inR l a b) d (2 * v)) (by rw [List.length_append]; omega) ((k : Int) + 1) (2 * (v : Int) + 1) _ _ _ _ (by omega) (by omega) rfl rfl rfl rfl
    rw [dstR, ← List.append_assoc]
    obtain ⟨out1, ho1⟩ : ∃ out1, out1 = out ++ dstR (inR l a b) d (2 * v) := ⟨_, rfl⟩
    rw [← ho1] at hI0 hI1 ⊢
    have hD0 := hD false
    have hD1 := hD true
    have hPa0 := hPa false
    have hPa1 := hPa true
    have hPb0 := hPb false
    have hPb1 := hPb true
    change PCalls _ _ [_, _, .int .i64 0] (.agg [.int .i64 (cL (wK l W (k + 1)) (2 * v) l.length : Nat), .int .i64 (cL (wK l W (k + 1)) (2 * v + 1) l.length : Nat)]) at hD0
    change PCalls _ _ [_, _, .int .i64 1] (.agg [.int .i64 (cL (wK l W (k + 1)) (2 * v + 1) l.length : Nat), .int .i64 (cL (wK l W (k + 1)) (2 * v + 1 + 1) l.length : Nat)]) at hD1
    change PCalls _ _ [_, _, .int .i64 0, _] (.int .i64 (plc (wK l W (k + 1)) l.length (2 * v) a : Nat)) at hPa0
    change PCalls _ _ [_, _, .int .i64 1, _] (.int .i64 (plc (wK l W (k + 1)) l.length (2 * v + 1) a : Nat)) at hPa1
    change PCalls _ _ [_, _, .int .i64 0, _] (.int .i64 (plc (wK l W (k + 1)) l.length (2 * v) b : Nat)) at hPb0
    change PCalls _ _ [_, _, .int .i64 1, _] (.int .i64 (plc (wK l W (k + 1)) l.length (2 * v + 1) b : Nat)) at hPb1
    clear hD hPa hPb ih
    generalize rowK (wK l W k) (bitN W (sy l) k) l.length = B at *
    generalize plc (wK l W k) l.length v a = x at *
    generalize plc (wK l W k) l.length v b = y at *
    generalize plc (wK l W (k + 1)) l.length (2 * v) a = x0 at *
    generalize plc (wK l W (k + 1)) l.length (2 * v) b = y0 at *
    generalize plc (wK l W (k + 1)) l.length (2 * v + 1) a = x1 at *
    generalize plc (wK l W (k + 1)) l.length (2 * v + 1) b = y1 at *
    generalize cL (wK l W (k + 1)) (2 * v) l.length = f0 at *
    generalize cL (wK l W (k + 1)) (2 * v + 1) l.length = f1 at *
    generalize cL (wK l W (k + 1)) (2 * v + 1 + 1) l.length = f2 at *
    generalize cL (wK l W k) v l.length = g0 at *
    generalize cL (wK l W k) (v + 1) l.length = g1 at *
    generalize dstR (inR l a b) d (2 * v + 1) = q1 at *
    unfold disM at hI0 hI1
    refine MCalls.of_aw Try.func54 rfl (by unfold Callable; kernel_rfl) (by kernel_rfl) (by simp [Try.ntmps54]) (by (simp (maxSteps := 1000000) (disch := first | exact dq | fail) only [go_sem, disM])) ?_; rw [Try.ntmps54, Try.results54]; (simp (maxSteps := 1000000) (disch := first | exact dq | fail) only [go_sem, disM])
    (repeat' (first
    | ((first | with_reducible (first | refine aw_seq ?_ | refine aw_region (aops_run ?_)) | (with_reducible refine aw_regionD (fun _ => .p) mixed ?_ (dops_run ?_); (· kernel_rfl)) | (with_reducible refine aw_regionD (fun _ => .r) mixed ?_ (dops_run ?_); (· kernel_rfl)) | with_reducible (first | refine aw_condK ?_ | refine aw_skip ?_ | refine aw_ret ?_ | refine aw_exit ?_ | refine aw_label ?_ | refine aw_block ?_ | refine aw_scope ?_ | refine And.intro ?_ ?_)) <;> (try (simp (maxSteps := 1000000) (disch := first | exact dq | fail) only [go_sem, hc, hc2, hB, hlen, decide_false, decide_true, eq_self])))
    | (with_reducible (first | refine wantK_split (fun h => ?_) (fun h => ?_) | refine condK_split (fun h => ?_) (fun h => ?_) | refine pickV_split (fun h => ?_) (fun h => ?_)) <;> (try (simp (maxSteps := 1000000) (disch := first | exact dq | fail) only [go_sem] at h)) <;> (try (simp (maxSteps := 1000000) (disch := first | exact dq | fail) only [go_sem, h, hc, hc2, hB, hlen, decide_false, decide_true, eq_self])))))
    all_goals (try omega)
    obtain ⟨E, hE⟩ : ∃ E : Nat → List Int, E = fun i => if i = 0 then out else if i = 1 then out1 else out1 ++ q1 := ⟨_, rfl⟩
    have hE0 : E 0 = out := by rw [hE]; rfl
    have hE1 : E 1 = out1 := by rw [hE]; rfl
    have hE2 : E 2 = out1 ++ q1 := by rw [hE]; rfl
    refine aw_loop (α := Nat) (fun i => ⟨58, sl [(0, .iv (.int .i64 k)), (1, .iv (.int .i64 v)), (3, .iv (.int .i64 x)), (4, .iv (.int .i64 y)), (5, .mp 0 0), (6, .mp 1 0), (7, .mp 2 0), (10, .mp 4 0), (13, .mp 5 0), (32, .iv (.int .i64 i))],
      [.var 29 [.iv (.int .i64 l.length), .iv (.int .i64 size), .iv (.sl 7 (rows.map rankV))], .var 22 [.msl 3 0 (E i).length (E i).length],
        .var 81 [.fn 54 [.mp 0 0, .mp 1 0, .mp 2 0]], .row true 3 1 ((E i).map (IV.int .i64)), .var 74 [.iv (.int .i64 g0), .iv (.int .i64 g1)], rankM B], 4⟩)
      (fun i => i ≤ 2) (fun i => 2 - i) 0 (wk_by [0, 1, 2, 3, 4, 5] ?_) (by omega) ?_
    · (simp (maxSteps := 1000000) (disch := first | exact dq | fail) only [go_sem, hE0])
    rintro i hi
    unfold rankM
    obtain rfl | rfl | rfl : i = 0 ∨ i = 1 ∨ i = 2 := by omega
    · rw [hE0]
      (repeat' (first
    | ((first | with_reducible (first | refine aw_seq ?_ | refine aw_region (aops_run ?_)) | (with_reducible refine aw_regionD (fun o => if [56].contains (o.dst.getD 0) then .w else .p) mixed ?_ (dops_run ?_); (· kernel_rfl)) | with_reducible (first | refine aw_condK ?_ | refine aw_skip ?_ | refine aw_ret ?_ | refine aw_exit ?_ | refine aw_label ?_ | refine aw_block ?_ | refine aw_scope ?_ | refine And.intro ?_ ?_)) <;> (try (simp (maxSteps := 1000000) (disch := first | exact dq | fail) only [go_sem])))
    | (with_reducible (first | refine wantK_split (fun h => ?_) (fun h => ?_) | refine condK_split (fun h => ?_) (fun h => ?_) | refine pickV_split (fun h => ?_) (fun h => ?_)) <;> (try (simp (maxSteps := 1000000) (disch := first | exact dq | fail) only [go_sem] at h)) <;> (try (simp (maxSteps := 1000000) (disch := first | exact dq | fail) only [go_sem, h])))))
      all_goals (try omega)
      ((first | with_reducible apply left_callf | with_reducible apply leftD_callf | with_reducible apply leftF_callf); (· with_reducible rfl); (· (simp (maxSteps := 1000000) (disch := first | exact dq | fail) only [go_sem]) <;> rfl); (· exact hD0); try (simp (maxSteps := 1000000) (disch := first | exact dq | fail) only [go_sem]))
      (repeat' (first
    | ((first | with_reducible (first | refine aw_seq ?_ | refine aw_region (aops_run ?_)) | (with_reducible refine aw_regionD (fun _ => .p) mixed ?_ (dops_run ?_); (· kernel_rfl)) | (with_reducible refine aw_regionD (fun _ => .r) mixed ?_ (dops_run ?_); (· kernel_rfl)) | with_reducible (first | refine aw_condK ?_ | refine aw_skip ?_ | refine aw_ret ?_ | refine aw_exit ?_ | refine aw_label ?_ | refine aw_block ?_ | refine aw_scope ?_ | refine And.intro ?_ ?_)) <;> (try (simp (maxSteps := 1000000) (disch := first | exact dq | fail) only [go_sem])))
    | (with_reducible (first | refine wantK_split (fun h => ?_) (fun h => ?_) | refine condK_split (fun h => ?_) (fun h => ?_) | refine pickV_split (fun h => ?_) (fun h => ?_)) <;> (try (simp (maxSteps := 1000000) (disch := first | exact dq | fail) only [go_sem] at h)) <;> (try (simp (maxSteps := 1000000) (disch := first | exact dq | fail) only [go_sem, h])))))
      ((first | with_reducible apply left_callf | with_reducible apply leftD_callf | with_reducible apply leftF_callf); (· with_reducible rfl); (· (simp (maxSteps := 1000000) (disch := first | exact dq | fail) only [go_sem]) <;> rfl); (· exact hPa0); try (simp (maxSteps := 1000000) (disch := first | exact dq | fail) only [go_sem]))
      (repeat' (first
    | ((first | with_reducible (first | refine aw_seq ?_ | refine aw_region (aops_run ?_)) | (with_reducible refine aw_regionD (fun _ => .p) mixed ?_ (dops_run ?_); (· kernel_rfl)) | (with_reducible refine aw_regionD (fun _ => .r) mixed ?_ (dops_run ?_); (· kernel_rfl)) | with_reducible (first | refine aw_condK ?_ | refine aw_skip ?_ | refine aw_ret ?_ | refine aw_exit ?_ | refine aw_label ?_ | refine aw_block ?_ | refine aw_scope ?_ | refine And.intro ?_ ?_)) <;> (try (simp (maxSteps := 1000000) (disch := first | exact dq | fail) only [go_sem])))
    | (with_reducible (first | refine wantK_split (fun h => ?_) (fun h => ?_) | refine condK_split (fun h => ?_) (fun h => ?_) | refine pickV_split (fun h => ?_) (fun h => ?_)) <;> (try (simp (maxSteps := 1000000) (disch := first | exact dq | fail) only [go_sem] at h)) <;> (try (simp (maxSteps := 1000000) (disch := first | exact dq | fail) only [go_sem, h])))))
      ((first | with_reducible apply left_callf | with_reducible apply leftD_callf | with_reducible apply leftF_callf); (· with_reducible rfl); (· (simp (maxSteps := 1000000) (disch := first | exact dq | fail) only [go_sem]) <;> rfl); (· exact hPb0); try (simp (maxSteps := 1000000) (disch := first | exact dq | fail) only [go_sem]))
      (repeat' (first
    | ((first | with_reducible (first | refine aw_seq ?_ | refine aw_region (aops_run ?_)) | (with_reducible refine aw_regionD (fun _ => .p) mixed ?_ (dops_run ?_); (· kernel_rfl)) | (with_reducible refine aw_regionD (fun _ => .r) mixed ?_ (dops_run ?_); (· kernel_rfl)) | with_reducible (first | refine aw_condK ?_ | refine aw_skip ?_ | refine aw_ret ?_ | refine aw_exit ?_ | refine aw_label ?_ | refine aw_block ?_ | refine aw_scope ?_ | refine And.intro ?_ ?_)) <;> (try (simp (maxSteps := 1000000) (disch := first | exact dq | fail) only [go_sem])))
    | (with_reducible (first | refine wantK_split (fun h => ?_) (fun h => ?_) | refine condK_split (fun h => ?_) (fun h => ?_) | refine pickV_split (fun h => ?_) (fun h => ?_)) <;> (try (simp (maxSteps := 1000000) (disch := first | exact dq | fail) only [go_sem] at h)) <;> (try (simp (maxSteps := 1000000) (disch := first | exact dq | fail) only [go_sem, h])))))
      ((first | with_reducible refine left_callMs [0, 1, 2, 3] (hI0) ?_ ?_ | with_reducible refine leftD_callMs [0, 1, 2, 3] rfl (hI0) ?_ ?_ | with_reducible refine leftD_callRs [0, 1, 2, 3] (by decide) (hI0) ?_ ?_); (· (simp (maxSteps := 1000000) (disch := first | exact dq | fail) only [go_sem])); try (simp (maxSteps := 1000000) (disch := first | exact dq | fail) only [go_sem]))
      (repeat' (first
    | ((first | with_reducible (first | refine aw_seq ?_ | refine aw_region (aops_run ?_)) | (with_reducible refine aw_regionD (fun _ => .p) mixed ?_ (dops_run ?_); (· kernel_rfl)) | (with_reducible refine aw_regionD (fun _ => .r) mixed ?_ (dops_run ?_); (· kernel_rfl)) | with_reducible (first | refine aw_condK ?_ | refine aw_skip ?_ | refine aw_ret ?_ | refine aw_exit ?_ | refine aw_label ?_ | refine aw_block ?_ | refine aw_scope ?_ | refine And.intro ?_ ?_)) <;> (try (simp (maxSteps := 1000000) (disch := first | exact dq | fail) only [go_sem])))
    | (with_reducible (first | refine wantK_split (fun h => ?_) (fun h => ?_) | refine condK_split (fun h => ?_) (fun h => ?_) | refine pickV_split (fun h => ?_) (fun h => ?_)) <;> (try (simp (maxSteps := 1000000) (disch := first | exact dq | fail) only [go_sem] at h)) <;> (try (simp (maxSteps := 1000000) (disch := first | exact dq | fail) only [go_sem, h])))))
      refine ⟨1, by omega, wk_by [0, 1, 2, 3, 4, 5] ?_, by omega⟩
      (simp (maxSteps := 1000000) (disch := first | exact dq | fail) only [go_sem, hE1])
    · rw [hE1]
      (repeat' (first
    | ((first | with_reducible (first | refine aw_seq ?_ | refine aw_region (aops_run ?_)) | (with_reducible refine aw_regionD (fun o => if [56].contains (o.dst.getD 0) then .w else .p) mixed ?_ (dops_run ?_); (· kernel_rfl)) | with_reducible (first | refine aw_condK ?_ | refine aw_skip ?_ | refine aw_ret ?_ | refine aw_exit ?_ | refine aw_label ?_ | refine aw_block ?_ | refine aw_scope ?_ | refine And.intro ?_ ?_)) <;> (try (simp (maxSteps := 1000000) (disch := first | exact dq | fail) only [go_sem])))
    | (with_reducible (first | refine wantK_split (fun h => ?_) (fun h => ?_) | refine condK_split (fun h => ?_) (fun h => ?_) | refine pickV_split (fun h => ?_) (fun h => ?_)) <;> (try (simp (maxSteps := 1000000) (disch := first | exact dq | fail) only [go_sem] at h)) <;> (try (simp (maxSteps := 1000000) (disch := first | exact dq | fail) only [go_sem, h])))))
      all_goals (try omega)
      ((first | with_reducible apply left_callf | with_reducible apply leftD_callf | with_reducible apply leftF_callf); (· with_reducible rfl); (· (simp (maxSteps := 1000000) (disch := first | exact dq | fail) only [go_sem]) <;> rfl); (· exact hD1); try (simp (maxSteps := 1000000) (disch := first | exact dq | fail) only [go_sem]))
      (repeat' (first
    | ((first | with_reducible (first | refine aw_seq ?_ | refine aw_region (aops_run ?_)) | (with_reducible refine aw_regionD (fun _ => .p) mixed ?_ (dops_run ?_); (· kernel_rfl)) | (with_reducible refine aw_regionD (fun _ => .r) mixed ?_ (dops_run ?_); (· kernel_rfl)) | with_reducible (first | refine aw_condK ?_ | refine aw_skip ?_ | refine aw_ret ?_ | refine aw_exit ?_ | refine aw_label ?_ | refine aw_block ?_ | refine aw_scope ?_ | refine And.intro ?_ ?_)) <;> (try (simp (maxSteps := 1000000) (disch := first | exact dq | fail) only [go_sem])))
    | (with_reducible (first | refine wantK_split (fun h => ?_) (fun h => ?_) | refine condK_split (fun h => ?_) (fun h => ?_) | refine pickV_split (fun h => ?_) (fun h => ?_)) <;> (try (simp (maxSteps := 1000000) (disch := first | exact dq | fail) only [go_sem] at h)) <;> (try (simp (maxSteps := 1000000) (disch := first | exact dq | fail) only [go_sem, h])))))
      ((first | with_reducible apply left_callf | with_reducible apply leftD_callf | with_reducible apply leftF_callf); (· with_reducible rfl); (· (simp (maxSteps := 1000000) (disch := first | exact dq | fail) only [go_sem]) <;> rfl); (· exact hPa1); try (simp (maxSteps := 1000000) (disch := first | exact dq | fail) only [go_sem]))
      (repeat' (first
    | ((first | with_reducible (first | refine aw_seq ?_ | refine aw_region (aops_run ?_)) | (with_reducible refine aw_regionD (fun _ => .p) mixed ?_ (dops_run ?_); (· kernel_rfl)) | (with_reducible refine aw_regionD (fun _ => .r) mixed ?_ (dops_run ?_); (· kernel_rfl)) | with_reducible (first | refine aw_condK ?_ | refine aw_skip ?_ | refine aw_ret ?_ | refine aw_exit ?_ | refine aw_label ?_ | refine aw_block ?_ | refine aw_scope ?_ | refine And.intro ?_ ?_)) <;> (try (simp (maxSteps := 1000000) (disch := first | exact dq | fail) only [go_sem])))
    | (with_reducible (first | refine wantK_split (fun h => ?_) (fun h => ?_) | refine condK_split (fun h => ?_) (fun h => ?_) | refine pickV_split (fun h => ?_) (fun h => ?_)) <;> (try (simp (maxSteps := 1000000) (disch := first | exact dq | fail) only [go_sem] at h)) <;> (try (simp (maxSteps := 1000000) (disch := first | exact dq | fail) only [go_sem, h])))))
      ((first | with_reducible apply left_callf | with_reducible apply leftD_callf | with_reducible apply leftF_callf); (· with_reducible rfl); (· (simp (maxSteps := 1000000) (disch := first | exact dq | fail) only [go_sem]) <;> rfl); (· exact hPb1); try (simp (maxSteps := 1000000) (disch := first | exact dq | fail) only [go_sem]))
      (repeat' (first
    | ((first | with_reducible (first | refine aw_seq ?_ | refine aw_region (aops_run ?_)) | (with_reducible refine aw_regionD (fun _ => .p) mixed ?_ (dops_run ?_); (· kernel_rfl)) | (with_reducible refine aw_regionD (fun _ => .r) mixed ?_ (dops_run ?_); (· kernel_rfl)) | with_reducible (first | refine aw_condK ?_ | refine aw_skip ?_ | refine aw_ret ?_ | refine aw_exit ?_ | refine aw_label ?_ | refine aw_block ?_ | refine aw_scope ?_ | refine And.intro ?_ ?_)) <;> (try (simp (maxSteps := 1000000) (disch := first | exact dq | fail) only [go_sem])))
    | (with_reducible (first | refine wantK_split (fun h => ?_) (fun h => ?_) | refine condK_split (fun h => ?_) (fun h => ?_) | refine pickV_split (fun h => ?_) (fun h => ?_)) <;> (try (simp (maxSteps := 1000000) (disch := first | exact dq | fail) only [go_sem] at h)) <;> (try (simp (maxSteps := 1000000) (disch := first | exact dq | fail) only [go_sem, h])))))
      ((first | with_reducible refine left_callMs [0, 1, 2, 3] (hI1) ?_ ?_ | with_reducible refine leftD_callMs [0, 1, 2, 3] rfl (hI1) ?_ ?_ | with_reducible refine leftD_callRs [0, 1, 2, 3] (by decide) (hI1) ?_ ?_); (· (simp (maxSteps := 1000000) (disch := first | exact dq | fail) only [go_sem])); try (simp (maxSteps := 1000000) (disch := first | exact dq | fail) only [go_sem]))
      (repeat' (first
    | ((first | with_reducible (first | refine aw_seq ?_ | refine aw_region (aops_run ?_)) | (with_reducible refine aw_regionD (fun _ => .p) mixed ?_ (dops_run ?_); (· kernel_rfl)) | (with_reducible refine aw_regionD (fun _ => .r) mixed ?_ (dops_run ?_); (· kernel_rfl)) | with_reducible (first | refine aw_condK ?_ | refine aw_skip ?_ | refine aw_ret ?_ | refine aw_exit ?_ | refine aw_label ?_ | refine aw_block ?_ | refine aw_scope ?_ | refine And.intro ?_ ?_)) <;> (try (simp (maxSteps := 1000000) (disch := first | exact dq | fail) only [go_sem])))
    | (with_reducible (first | refine wantK_split (fun h => ?_) (fun h => ?_) | refine condK_split (fun h => ?_) (fun h => ?_) | refine pickV_split (fun h => ?_) (fun h => ?_)) <;> (try (simp (maxSteps := 1000000) (disch := first | exact dq | fail) only [go_sem] at h)) <;> (try (simp (maxSteps := 1000000) (disch := first | exact dq | fail) only [go_sem, h])))))
      refine ⟨2, by omega, wk_by [0, 1, 2, 3, 4, 5] ?_, by omega⟩
      (simp (maxSteps := 1000000) (disch := first | exact dq | fail) only [go_sem, hE2])
    · rw [hE2]
      (repeat' (first
    | ((first | with_reducible (first | refine aw_seq ?_ | refine aw_region (aops_run ?_)) | (with_reducible refine aw_regionD (fun _ => .p) mixed ?_ (dops_run ?_); (· kernel_rfl)) | (with_reducible refine aw_regionD (fun _ => .r) mixed ?_ (dops_run ?_); (· kernel_rfl)) | with_reducible (first | refine aw_condK ?_ | refine aw_skip ?_ | refine aw_ret ?_ | refine aw_exit ?_ | refine aw_label ?_ | refine aw_block ?_ | refine aw_scope ?_ | refine And.intro ?_ ?_)) <;> (try (simp (maxSteps := 1000000) (disch := first | exact dq | fail) only [go_sem])))
    | (with_reducible (first | refine wantK_split (fun h => ?_) (fun h => ?_) | refine condK_split (fun h => ?_) (fun h => ?_) | refine pickV_split (fun h => ?_) (fun h => ?_)) <;> (try (simp (maxSteps := 1000000) (disch := first | exact dq | fail) only [go_sem] at h)) <;> (try (simp (maxSteps := 1000000) (disch := first | exact dq | fail) only [go_sem, h])))))
      all_goals (try omega)
      refine fin_k [0, 1, 2, 3] ?_
      (simp (maxSteps := 1000000) (disch := first | exact dq | fail) only [go_sem, disM])
set_option maxHeartbeats 2000000 in
theorem Distinct_spec {l : List Int} {W : Nat} {rows : List (List Bool)} (hw : WOk l W rows) (size : Int) (hW : W ≤ 20) (hn : l.length ≤ 1000000) (i j : Int) :
    PCalls Try.prog 17 [waveV l.length size rows, .int .i64 i, .int .i64 j] (inl (distL l W (clI l.length i) (clI l.length (max j (clI l.length i))))) := by
  obtain ⟨i0, hi0⟩ : ∃ i0, i0 = clI l.length i := ⟨_, rfl⟩
  have ei : min (max i 0) (l.length : Int) = (i0 : Int) := by rw [hi0]; unfold clI; omega
  have hi0n := clI_le l.length i
  obtain ⟨j0, hj0⟩ : ∃ j0, j0 = clI l.length (max j i0) := ⟨_, rfl⟩
  have ej : min (max j (i0 : Int)) (l.length : Int) = (j0 : Int) := by rw [hj0]; unfold clI; omega
  rw [← hi0] at hi0n ⊢
  have hj0n : j0 ≤ l.length := by rw [hj0]; exact clI_le _ _
  rw [← hj0]
  have hij : i0 ≤ j0 := by omega
  have f0 := cL_zero (wK l W 0) l.length
  have f1 := cL0 l W l.length
  have hp20 : 2 ^ W ≤ 2 ^ 20 := Nat.pow_le_pow_right (by decide) hW
  have hp0 : ∀ i, plc (wK l W 0) l.length 0 i = i := fun i => by unfold plc; rw [f0, cN0, Nat.zero_add]
  have hR := dis_rec hw size hW hn hij hj0n W 0 0 (by omega) (by decide) [] (by simp; omega) 0 0 0 l.length i0 j0 rfl rfl (by rw [f0]; rfl) (by rw [f1]) (by rw [hp0]) (by rw [hp0])
  rw [List.nil_append, dst_all] at hR
  generalize distL l W i0 j0 = D at *
  unfold disM at hR
  refine PCalls.of_aw Try.func17 rfl (by unfold Callable; kernel_rfl) (by kernel_rfl) (by simp [Try.ntmps17]) ?_; rw [Try.ntmps17, Try.results17]; (simp (maxSteps := 1000000) (disch := first | exact dq | fail) only [go_sem, waveV])
  ((with_reducible refine aw_seq ?_); (with_reducible refine aw_region (aops_run ?_)); try (simp (maxSteps := 1000000) (disch := first | exact dq | fail) only [go_sem]))
  ((with_reducible refine aw_seq ?_); (with_reducible refine aw_region (aops_run ?_)); try (simp (maxSteps := 1000000) (disch := first | exact dq | fail) only [go_sem]))
  ((with_reducible refine aw_seq ?_); (with_reducible refine aw_region (aops_run ?_)); try (simp (maxSteps := 1000000) (disch := first | exact dq | fail) only [go_sem]))
  ((with_reducible refine aw_seq ?_); (with_reducible refine aw_region (aops_run ?_)); try (simp (maxSteps := 1000000) (disch := first | exact dq | fail) only [go_sem]))
  ((with_reducible refine aw_seq ?_); (with_reducible refine aw_region (aops_run ?_)); try (simp (maxSteps := 1000000) (disch := first | exact dq | fail) only [go_sem]))
  ((with_reducible refine aw_seq ?_); (with_reducible refine aw_region (aops_run ?_)); try (simp (maxSteps := 1000000) (disch := first | exact dq | fail) only [go_sem]))
  simp only [ei, ej]
  refine aw_wk (wk_ownc 3 1 2 0 rfl rfl) ?_
  (repeat' (first
    | ((first | with_reducible (first | refine aw_seq ?_ | refine aw_region (aops_run ?_)) | (with_reducible refine aw_regionD (fun _ => .p) mixed ?_ (dops_run ?_); (· kernel_rfl)) | (with_reducible refine aw_regionD (fun _ => .r) mixed ?_ (dops_run ?_); (· kernel_rfl)) | with_reducible (first | refine aw_condK ?_ | refine aw_skip ?_ | refine aw_ret ?_ | refine aw_exit ?_ | refine aw_label ?_ | refine aw_block ?_ | refine aw_scope ?_ | refine And.intro ?_ ?_)) <;> (try (simp (maxSteps := 1000000) (disch := first | exact dq | fail) only [go_sem])))
    | (with_reducible (first | refine wantK_split (fun h => ?_) (fun h => ?_) | refine condK_split (fun h => ?_) (fun h => ?_) | refine pickV_split (fun h => ?_) (fun h => ?_)) <;> (try (simp (maxSteps := 1000000) (disch := first | exact dq | fail) only [go_sem] at h)) <;> (try (simp (maxSteps := 1000000) (disch := first | exact dq | fail) only [go_sem, h])))))
  all_goals (try omega)
  ((first | with_reducible refine left_callMs [0, 2, 3, 4] (hR) ?_ ?_ | with_reducible refine leftD_callMs [0, 2, 3, 4] rfl (hR) ?_ ?_ | with_reducible refine leftD_callRs [0, 2, 3, 4] (by decide) (hR) ?_ ?_); (· (simp (maxSteps := 1000000) (disch := first | exact dq | fail) only [go_sem])); try (simp (maxSteps := 1000000) (disch := first | exact dq | fail) only [go_sem]))
  (repeat' (first
    | ((first | with_reducible (first | refine aw_seq ?_ | refine aw_region (aops_run ?_)) | (with_reducible refine aw_regionD (fun _ => .p) mixed ?_ (dops_run ?_); (· kernel_rfl)) | (with_reducible refine aw_regionD (fun _ => .r) mixed ?_ (dops_run ?_); (· kernel_rfl)) | with_reducible (first | refine aw_condK ?_ | refine aw_skip ?_ | refine aw_ret ?_ | refine aw_exit ?_ | refine aw_label ?_ | refine aw_block ?_ | refine aw_scope ?_ | refine And.intro ?_ ?_)) <;> (try (simp (maxSteps := 1000000) (disch := first | exact dq | fail) only [go_sem])))
    | (with_reducible (first | refine wantK_split (fun h => ?_) (fun h => ?_) | refine condK_split (fun h => ?_) (fun h => ?_) | refine pickV_split (fun h => ?_) (fun h => ?_)) <;> (try (simp (maxSteps := 1000000) (disch := first | exact dq | fail) only [go_sem] at h)) <;> (try (simp (maxSteps := 1000000) (disch := first | exact dq | fail) only [go_sem, h])))))
  all_goals (try omega)
  all_goals (try (rw [List.take_of_length_le (by simp)]))
end Go.Proofs.Ytkfjldkememadaa.AM
