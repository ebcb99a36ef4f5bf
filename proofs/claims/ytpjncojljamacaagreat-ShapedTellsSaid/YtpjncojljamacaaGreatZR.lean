
/- Chapter 5: what a shaped row tells: codes, cost, ranks. Rows that New made. -/
import Derived.Test.YtpjncojljamacaaGreatZQ
import Derived.Test.YtpjncojljamacaaGreatK4
set_option linter.unusedVariables false
set_option linter.unusedSimpArgs false
set_option maxRecDepth 20000
namespace Go.Proofs.YtpjncojljamacaaGreat.AM
open Go Go.RowKit

structure Shp5 (l : List Int) (size : Nat) (rk : List (List Bool)) : Prop where
  len : l.length ≤ 100000
  s1 : 1 ≤ size
  s2 : size ≤ 65536
  rng : ∀ x ∈ l, 0 ≤ x ∧ x < size
  ok : RkOk l size rk
def cdZ (l : List Int) (size : Nat) (c : Int) : List Bool := if 0 ≤ c ∧ c < size then cdF (cnt5 l size) c else []
section
variable {l : List Int} {size : Nat} {rk : List (List Bool)}
theorem code_at (l : List Int) (size : Nat) {c : Int} (hc : 0 ≤ c ∧ c < size) : (strR (kdsL (cnt5 l size)))[c.toNat]? = some (.str (bs (cdB (cdF (cnt5 l size) c)))) := by
  have hlt : c.toNat < (kdsL (cnt5 l size)).length := by rw [kds_len, cnt5_len]; omega
  have hg : (kdsL (cnt5 l size))[c.toNat]? = some ((kdsL (cnt5 l size)).getD c.toNat []) := by rw [List.getD, List.getElem?_eq_getElem hlt]; rfl
  unfold strR cdF
  rw [List.getElem?_map, hg]; rfl
theorem code_len (l : List Int) (size : Nat) : (strR (kdsL (cnt5 l size))).length = size := by rw [strR_len, kds_len, cnt5_len]
theorem Code5_spec (h : Shp5 l size rk) (c : Int) : PCalls Tryz.prog 21 [shV l size rk, .int .i64 c] (.str (bs (cdB (cdZ l size c)))) := by
  have hsl := code_len l size
  have h2 := h.s2
  unfold shV cdV cdZ
  by_cases hc0 : c < 0
  · have c0 : (c < 0) = True := eq_true hc0
    rw [if_neg (by omega)]
    refine PCalls.of_aw Tryz.func21 rfl (by unfold Callable; kernel_rfl) (by kernel_rfl) (by simp [Tryz.ntmps21]) ?_; rw [Tryz.ntmps21, Tryz.results21]; (simp (disch := first | exact dq | fail) only [go_sem])
    (repeat' first
  | ((with_reducible first | refine Nx.go ?_ | refine rP ?_ | refine rR ?_ | refine And.intro ?_ ?_ | fail) <;> try (simp (disch := first | exact dq | fail) only [go_sem, c0, decide_true]))
  | ((with_reducible refine Sp.go ?_ ?_) <;> intro h <;> (try (simp (disch := first | exact dq | fail) only [go_sem] at h)) <;> try (simp (disch := first | exact dq | fail) only [go_sem, h, c0, decide_true])) | fail)
    rfl
  · have c0 : (c < 0) = False := eq_false hc0
    by_cases hc1 : c ≥ size
    · have c1 : (c ≥ (size : Int)) = True := eq_true hc1
      rw [if_neg (by omega)]
      refine PCalls.of_aw Tryz.func21 rfl (by unfold Callable; kernel_rfl) (by kernel_rfl) (by simp [Tryz.ntmps21]) ?_; rw [Tryz.ntmps21, Tryz.results21]; (simp (disch := first | exact dq | fail) only [go_sem])
      (repeat' first
  | ((with_reducible first | refine Nx.go ?_ | refine rP ?_ | refine rR ?_ | refine And.intro ?_ ?_ | fail) <;> try (simp (disch := first | exact dq | fail) only [go_sem, c0, c1, decide_true, decide_false]))
  | ((with_reducible refine Sp.go ?_ ?_) <;> intro h <;> (try (simp (disch := first | exact dq | fail) only [go_sem] at h)) <;> try (simp (disch := first | exact dq | fail) only [go_sem, h, c0, c1, decide_true, decide_false])) | fail)
      rfl
    · have c1 : (c ≥ (size : Int)) = False := eq_false hc1
      rw [if_pos ⟨by omega, by omega⟩]
      have hca := code_at l size (c := c) ⟨by omega, by omega⟩
      refine PCalls.of_aw Tryz.func21 rfl (by unfold Callable; kernel_rfl) (by kernel_rfl) (by simp [Tryz.ntmps21]) ?_; rw [Tryz.ntmps21, Tryz.results21]; (simp (disch := first | exact dq | fail) only [go_sem])
      (repeat' first
  | ((with_reducible first | refine Nx.go ?_ | refine rP ?_ | refine rR ?_ | refine And.intro ?_ ?_ | fail) <;> try (simp (disch := first | exact dq | fail) only [go_sem, c0, c1, decide_true, decide_false, hca, hsl]))
  | ((with_reducible refine Sp.go ?_ ?_) <;> intro h <;> (try (simp (disch := first | exact dq | fail) only [go_sem] at h)) <;> try (simp (disch := first | exact dq | fail) only [go_sem, h, c0, c1, decide_true, decide_false, hca, hsl])) | fail)
      all_goals (try omega)
theorem key_at (h : Shp5 l size rk) {p : List Bool} (hp : inN (cdF (cnt5 l size)) l p) : ∃ j, findK (.str (bs (cdB p))) (keyR rk) 0 = some (some j) ∧ ((rk.map fun p => rankV (rwL (cdF (cnt5 l size)) l p)).map AV.iv)[j]? = some (.iv (rankV (rwL (cdF (cnt5 l size)) l p))) := by
  obtain ⟨j, h1, h2⟩ := fdS_at ((h.ok.mem p).2 hp)
  refine ⟨j, by rw [find_key, h1], ?_⟩
  rw [List.getElem?_map, List.getElem?_map, h2]; rfl
theorem rw_bd (h : Shp5 l size rk) (p : List Bool) : (rwL (cdF (cnt5 l size)) l p).length ≤ 100000 := by
  unfold rwL sbL
  rw [List.length_map]
  exact Nat.le_trans (List.length_filter_le _ _) h.len
theorem stands_spec (h : Shp5 l size rk) (c : Int) : PCalls Tryz.prog 28 [shV l size rk, .int .i64 c] (.bool (decide (c ∈ l))) := by
  have hsl := code_len l size
  have h2 := h.s2
  by_cases hc0 : c < 0
  · have c0 : (c < 0) = True := eq_true hc0
    rw [decide_eq_false (fun hm => by have := h.rng c hm; omega)]
    unfold shV cdV
    refine PCalls.of_aw Tryz.func28 rfl (by unfold Callable; kernel_rfl) (by kernel_rfl) (by simp [Tryz.ntmps28]) ?_; rw [Tryz.ntmps28, Tryz.results28]; (simp (disch := first | exact dq | fail) only [go_sem])
    (repeat' first
  | ((with_reducible first | refine Nx.go ?_ | refine rP ?_ | refine rR ?_ | refine And.intro ?_ ?_ | fail) <;> try (simp (disch := first | exact dq | fail) only [go_sem, c0, decide_true]))
  | ((with_reducible refine Sp.go ?_ ?_) <;> intro h <;> (try (simp (disch := first | exact dq | fail) only [go_sem] at h)) <;> try (simp (disch := first | exact dq | fail) only [go_sem, h, c0, decide_true])) | fail)
  · have c0 : (c < 0) = False := eq_false hc0
    by_cases hc1 : c ≥ size
    · have c1 : (c ≥ (size : Int)) = True := eq_true hc1
      rw [decide_eq_false (fun hm => by have := h.rng c hm; omega)]
      unfold shV cdV
      refine PCalls.of_aw Tryz.func28 rfl (by unfold Callable; kernel_rfl) (by kernel_rfl) (by simp [Tryz.ntmps28]) ?_; rw [Tryz.ntmps28, Tryz.results28]; (simp (disch := first | exact dq | fail) only [go_sem])
      (repeat' first
  | ((with_reducible first | refine Nx.go ?_ | refine rP ?_ | refine rR ?_ | refine And.intro ?_ ?_ | fail) <;> try (simp (disch := first | exact dq | fail) only [go_sem, c0, c1, decide_true, decide_false]))
  | ((with_reducible refine Sp.go ?_ ?_) <;> intro h <;> (try (simp (disch := first | exact dq | fail) only [go_sem] at h)) <;> try (simp (disch := first | exact dq | fail) only [go_sem, h, c0, c1, decide_true, decide_false])) | fail)
    · have c1 : (c ≥ (size : Int)) = False := eq_false hc1
      have hca := code_at l size (c := c) ⟨by omega, by omega⟩
      have hfk := find_key (cdF (cnt5 l size) c) ((dst l).map (cdF (cnt5 l size)))
      cases hf : fdS (cdF (cnt5 l size) c) ((dst l).map (cdF (cnt5 l size))) with
      | none =>
        rw [hf] at hfk
        have hcl : c ∉ l := fun hm => fdS_none.1 hf (List.mem_map_of_mem ((dst_mem l c).2 hm))
        rw [decide_eq_false hcl]
        unfold shV cdV
        refine PCalls.of_aw Tryz.func28 rfl (by unfold Callable; kernel_rfl) (by kernel_rfl) (by simp [Tryz.ntmps28]) ?_; rw [Tryz.ntmps28, Tryz.results28]; (simp (disch := first | exact dq | fail) only [go_sem])
        (repeat' first
  | ((with_reducible first | refine Nx.go ?_ | refine rP ?_ | refine rR ?_ | refine And.intro ?_ ?_ | fail) <;> try (simp (disch := first | exact dq | fail) only [go_sem, c0, c1, decide_true, decide_false, hca, hsl, hfk]))
  | ((with_reducible refine Sp.go ?_ ?_) <;> intro h <;> (try (simp (disch := first | exact dq | fail) only [go_sem] at h)) <;> try (simp (disch := first | exact dq | fail) only [go_sem, h, c0, c1, decide_true, decide_false, hca, hsl, hfk])) | fail)
        all_goals (try omega)
      | some j =>
        rw [hf] at hfk
        have hj := fdS_some hf
        rw [List.getElem?_map] at hj
        obtain ⟨x, hx, e⟩ := Option.map_eq_some_iff.1 hj
        have hxl := (dst_mem l x).1 (List.mem_of_getElem? hx)
        have hv : (((dst l).map (IV.int .i64)).map AV.iv)[j]? = some (.iv (.int .i64 x)) := by rw [List.getElem?_map, List.getElem?_map, hx]; rfl
        have hd : decide (c ∈ l) = decide (x = c) := decide_eq_decide.2 ⟨fun hm => cd_pf h.rng x hxl c hm (by rw [e]; exact List.prefix_refl _), fun e2 => e2 ▸ hxl⟩
        rw [hd]
        unfold shV cdV
        refine PCalls.of_aw Tryz.func28 rfl (by unfold Callable; kernel_rfl) (by kernel_rfl) (by simp [Tryz.ntmps28]) ?_; rw [Tryz.ntmps28, Tryz.results28]; (simp (disch := first | exact dq | fail) only [go_sem])
        (repeat' first
  | ((with_reducible first | refine Nx.go ?_ | refine rP ?_ | refine rR ?_ | refine And.intro ?_ ?_ | fail) <;> try (simp (disch := first | exact dq | fail) only [go_sem, c0, c1, decide_true, decide_false, hca, hsl, hfk, hv]))
  | ((with_reducible refine Sp.go ?_ ?_) <;> intro h <;> (try (simp (disch := first | exact dq | fail) only [go_sem] at h)) <;> try (simp (disch := first | exact dq | fail) only [go_sem, h, c0, c1, decide_true, decide_false, hca, hsl, hfk, hv])) | fail)
        all_goals (try omega)
def rk5 (l : List Int) (c i : Int) : Nat := cP (fun x => decide (x = c)) l (min (max i 0) l.length).toNat
theorem cP_zero {p : Int → Bool} {l : List Int} (h : ∀ x ∈ l, p x = false) : ∀ i, i ≤ l.length → cP p l i = 0
  | 0, _ => rfl
  | i + 1, hi => by
    rw [cP, cP_zero h i (by omega), h _ (getD_mem hi)]; rfl
theorem Rank5_spec (h : Shp5 l size rk) (c i : Int) : PCalls Tryz.prog 9 [shV l size rk, .int .i64 c, .int .i64 i] (.int .i64 (rk5 l c i : Nat)) := by
  have hsl := code_len l size
  have h2 := h.s2
  have hln := h.len
  have hS := stands_spec h c
  by_cases hc : c ∈ l
  · rw [decide_eq_true hc] at hS
    have hcr := h.rng c hc
    have hca := code_at l size (c := c) hcr
    have hcb := cd_bd l size c h2
    have hcl := cdB_len (cdF (cnt5 l size) c)
    have hwh := ct_whole (cd_pf h.rng) hc
    have hm : ∃ m : Nat, min (max i 0) (l.length : Int) = (m : Int) ∧ m ≤ l.length := ⟨(min (max i 0) (l.length : Int)).toNat, by omega, by omega⟩
    obtain ⟨m, hm, hml⟩ := hm
    have hr : rk5 l c i = ctP (cdF (cnt5 l size)) l (cdF (cnt5 l size) c) m := by
      unfold rk5; rw [hm, Int.toNat_natCast, hwh m hml]
    have hc0 := ct_nil (cdF (cnt5 l size)) l hml
    have hbd := ct_le (cdF (cnt5 l size)) l
    have hin : ∀ k, k < (cdF (cnt5 l size) c).length → inN (cdF (cnt5 l size)) l ((cdF (cnt5 l size) c).take k) := fun k hk => ⟨c, hc, List.take_prefix _ _, fun e => by have := congrArg List.length e; rw [List.length_take] at this; omega⟩
    have hnx := fun k hk b => ct_next (cd_pf h.rng) (hin k hk) b m
    rw [hr]
    generalize hC : cdF (cnt5 l size) c = C at *
    have hca' := hca
    unfold shV cdV at hS ⊢
    refine PCalls.of_aw Tryz.func9 rfl (by unfold Callable; kernel_rfl) (by kernel_rfl) (by simp [Tryz.ntmps9]) ?_; rw [Tryz.ntmps9, Tryz.results9]; (simp (disch := first | exact dq | fail) only [go_sem])
    (repeat' first
  | ((with_reducible first | refine Nx.go ?_ | refine rP ?_ | refine rR ?_ | refine And.intro ?_ ?_ | fail) <;> try (simp (disch := first | exact dq | fail) only [go_sem]))
  | ((with_reducible refine Sp.go ?_ ?_) <;> intro h <;> (try (simp (disch := first | exact dq | fail) only [go_sem] at h)) <;> try (simp (disch := first | exact dq | fail) only [go_sem, h])) | fail)
    ((with_reducible first | apply left_callf | apply leftD_callf | apply leftF_callf); (· with_reducible rfl); (· (simp (disch := first | exact dq | fail) only [go_sem]) <;> rfl); (· exact hS); try (simp (disch := first | exact dq | fail) only [go_sem]))
    (repeat' first
  | ((with_reducible first | refine Nx.go ?_ | refine rP ?_ | refine rR ?_ | refine And.intro ?_ ?_ | fail) <;> try (simp (disch := first | exact dq | fail) only [go_sem, hca, hsl, hm, hcl]))
  | ((with_reducible refine Sp.go ?_ ?_) <;> intro h <;> (try (simp (disch := first | exact dq | fail) only [go_sem] at h)) <;> try (simp (disch := first | exact dq | fail) only [go_sem, h, hca, hsl, hm, hcl])) | fail)
    all_goals (try omega)
    refine aw_loop (α := Nat) (fun k => ⟨47, sl [(2, .iv (.int .i64 (ctP (cdF (cnt5 l size)) l (C.take k) m))), (3, .mp 0 0), (7, .iv (.str (bs (cdB C)))), (25, .iv (.int .i64 C.length)), (26, .iv (.int .i64 k))], [.var 31 [.iv (.int .i64 l.length), .iv (.int .i64 size), .iv (.sl 1 (strR (kdsL (cnt5 l size)))),
      .iv (.map (keyR rk) (rk.map fun p => rankV (rwL (cdF (cnt5 l size)) l p))), .iv (.map (keyR ((dst l).map (cdF (cnt5 l size)))) ((dst l).map (IV.int .i64)))]], 0⟩) (fun k => k ≤ C.length) (fun k => C.length - k) 0 (wk_by [0] ?_) (Nat.zero_le _) ?_
    · (simp (disch := first | exact dq | fail) only [go_sem, List.take_zero, hc0])
    rintro k hk
    by_cases hkl : k < C.length
    · have c0 : ((k : Int) < C.length) := by omega
      obtain ⟨j, hj1, hj2⟩ := key_at h (hin k hkl)
      have hrb := rw_bd h (C.take k)
      have htk2 : (cdB C).take k = cdB (C.take k) := cdB_take _ _
      have hg : (cdB C).getD k 0 = dg (C.getD k false) := by
        unfold cdB
        simp [List.getD, List.getElem?_eq_getElem hkl]
      have hgi := dg_eq (C.getD k false)
      have htn : C.take (k + 1) = C.take k ++ [C.getD k false] := by
        rw [List.take_succ_eq_append_getElem hkl]; simp [List.getD, List.getElem?_eq_getElem hkl]
      have hnk := hnx k hkl (C.getD k false)
      rw [← htn] at hnk
      have hR1 := Rank1_spec (rwL (cdF (cnt5 l size)) l (C.take k)) (ctP (cdF (cnt5 l size)) l (C.take k) m) (by omega)
      have hR0 := Rank0_spec (rwL (cdF (cnt5 l size)) l (C.take k)) (ctP (cdF (cnt5 l size)) l (C.take k) m) (by omega)
      rw [Int.toNat_natCast] at hR1 hR0
      rw [← cntB_true] at hR1
      cases hb : C.getD k false with
      | true =>
        rw [hb] at hg hgi hnk
        rw [if_pos rfl] at hgi
        rw [hnk] at hR1
        (repeat' first
  | ((with_reducible first | refine Nx.go ?_ | refine rP ?_ | refine rR ?_ | refine And.intro ?_ ?_ | fail) <;> try (simp (disch := first | exact dq | fail) only [go_sem, c0, decide_true, hcl, htk2, hj1, hj2, hg, hgi]))
  | ((with_reducible refine Sp.go ?_ ?_) <;> intro h <;> (try (simp (disch := first | exact dq | fail) only [go_sem] at h)) <;> try (simp (disch := first | exact dq | fail) only [go_sem, h, c0, decide_true, hcl, htk2, hj1, hj2, hg, hgi])) | fail)
        all_goals (try omega)
        ((with_reducible first | apply left_callf | apply leftD_callf | apply leftF_callf); (· with_reducible rfl); (· (simp (disch := first | exact dq | fail) only [go_sem]) <;> rfl); (· exact hR1); try (simp (disch := first | exact dq | fail) only [go_sem]))
        (repeat' first
  | ((with_reducible first | refine Nx.go ?_ | refine rP ?_ | refine rR ?_ | refine And.intro ?_ ?_ | fail) <;> try (simp (disch := first | exact dq | fail) only [go_sem]))
  | ((with_reducible refine Sp.go ?_ ?_) <;> intro h <;> (try (simp (disch := first | exact dq | fail) only [go_sem] at h)) <;> try (simp (disch := first | exact dq | fail) only [go_sem, h])) | fail)
        refine ⟨k + 1, by omega, wk_by [0] ?_, by omega⟩
        (simp (disch := first | exact dq | fail) only [go_sem])
      | false =>
        rw [hb] at hg hgi hnk
        rw [if_neg (by simp)] at hgi
        rw [hnk] at hR0
        have c1 : ¬ ((48 : Int) = 49) := by omega
        (repeat' first
  | ((with_reducible first | refine Nx.go ?_ | refine rP ?_ | refine rR ?_ | refine And.intro ?_ ?_ | fail) <;> try (simp (disch := first | exact dq | fail) only [go_sem, c0, decide_true, decide_false, hcl, htk2, hj1, hj2, hg, hgi, c1]))
  | ((with_reducible refine Sp.go ?_ ?_) <;> intro h <;> (try (simp (disch := first | exact dq | fail) only [go_sem] at h)) <;> try (simp (disch := first | exact dq | fail) only [go_sem, h, c0, decide_true, decide_false, hcl, htk2, hj1, hj2, hg, hgi, c1])) | fail)
        all_goals (try omega)
        ((with_reducible first | apply left_callf | apply leftD_callf | apply leftF_callf); (· with_reducible rfl); (· (simp (disch := first | exact dq | fail) only [go_sem]) <;> rfl); (· exact hR0); try (simp (disch := first | exact dq | fail) only [go_sem]))
        (repeat' first
  | ((with_reducible first | refine Nx.go ?_ | refine rP ?_ | refine rR ?_ | refine And.intro ?_ ?_ | fail) <;> try (simp (disch := first | exact dq | fail) only [go_sem]))
  | ((with_reducible refine Sp.go ?_ ?_) <;> intro h <;> (try (simp (disch := first | exact dq | fail) only [go_sem] at h)) <;> try (simp (disch := first | exact dq | fail) only [go_sem, h])) | fail)
        refine ⟨k + 1, by omega, wk_by [0] ?_, by omega⟩
        (simp (disch := first | exact dq | fail) only [go_sem])
    · obtain rfl : k = C.length := by omega
      have c0 : ¬ ((C.length : Int) < C.length) := by omega
      rw [List.take_length]
      (repeat' first
  | ((with_reducible first | refine Nx.go ?_ | refine rP ?_ | refine rR ?_ | refine And.intro ?_ ?_ | fail) <;> try (simp (disch := first | exact dq | fail) only [go_sem, c0, decide_false]))
  | ((with_reducible refine Sp.go ?_ ?_) <;> intro h <;> (try (simp (disch := first | exact dq | fail) only [go_sem] at h)) <;> try (simp (disch := first | exact dq | fail) only [go_sem, h, c0, decide_false])) | fail)
  · rw [decide_eq_false hc] at hS
    have hr : rk5 l c i = 0 := cP_zero (fun x hx => decide_eq_false (fun e => hc (by rw [← e]; exact hx))) _ (by omega)
    rw [hr]
    unfold shV cdV at hS ⊢
    refine PCalls.of_aw Tryz.func9 rfl (by unfold Callable; kernel_rfl) (by kernel_rfl) (by simp [Tryz.ntmps9]) ?_; rw [Tryz.ntmps9, Tryz.results9]; (simp (disch := first | exact dq | fail) only [go_sem])
    (repeat' first
  | ((with_reducible first | refine Nx.go ?_ | refine rP ?_ | refine rR ?_ | refine And.intro ?_ ?_ | fail) <;> try (simp (disch := first | exact dq | fail) only [go_sem]))
  | ((with_reducible refine Sp.go ?_ ?_) <;> intro h <;> (try (simp (disch := first | exact dq | fail) only [go_sem] at h)) <;> try (simp (disch := first | exact dq | fail) only [go_sem, h])) | fail)
    ((with_reducible first | apply left_callf | apply leftD_callf | apply leftF_callf); (· with_reducible rfl); (· (simp (disch := first | exact dq | fail) only [go_sem]) <;> rfl); (· exact hS); try (simp (disch := first | exact dq | fail) only [go_sem]))
    (repeat' first
  | ((with_reducible first | refine Nx.go ?_ | refine rP ?_ | refine rR ?_ | refine And.intro ?_ ?_ | fail) <;> try (simp (disch := first | exact dq | fail) only [go_sem]))
  | ((with_reducible refine Sp.go ?_ ?_) <;> intro h <;> (try (simp (disch := first | exact dq | fail) only [go_sem] at h)) <;> try (simp (disch := first | exact dq | fail) only [go_sem, h])) | fail)
end
end Go.Proofs.YtpjncojljamacaaGreat.AM
