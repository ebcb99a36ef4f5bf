
/- Chapter 5: At, Select, List, Len and Size of a row that New made. -/
import Derived.Test.YtpjncojljamacaaGreatZT
set_option linter.unusedVariables false
set_option linter.unusedSimpArgs false
set_option maxRecDepth 20000
namespace Go.Proofs
open Go Go.Shelf Go.RowKit Go.Lib
theorem Tryz.digit_w (b : Bool) (w : World) : Calls Tryz.prog 34 #[.int .i64 (b.toNat : Int)] w fun e w' => e = .returned (.string ⟨#[YtpjncojljamacaaGreat.AM.dg b]⟩) ∧ w' = w := by
  have t3 := Tryz.underlying3; have a3 := Tryz.isAgg3; have z3 := Tryz.sizeOf3; have v3 := Tryz.zeroValue3
  have t9 := Tryz.underlying9; have a9 := Tryz.isAgg9; have z9 := Tryz.sizeOf9; have v9 := Tryz.zeroValue9
  have t21 := Tryz.underlying21; have a21 := Tryz.isAgg21; have z21 := Tryz.sizeOf21; have v21 := Tryz.zeroValue21
  have u3 := run_underlying t3; have u9 := run_underlying t9; have u21 := run_underlying t21
  cases b
  · go_enter Tryz.func34, Tryz.ntmps34
    go_wp2
    go_ret
    exact ⟨rfl, rfl⟩
  · go_enter Tryz.func34, Tryz.ntmps34
    go_wp2
    go_ret
    exact ⟨rfl, rfl⟩
end Go.Proofs
namespace Go.Proofs.YtpjncojljamacaaGreat.AM
open Go Go.RowKit
theorem Digit_spec (b : Bool) : PCalls Tryz.prog 34 [.int .i64 (b.toNat : Int)] (.str (bs (cdB [b]))) := by
  refine ⟨by unfold Callable; kernel_rfl, fun w E vs hl hv hE => ?_⟩
  match vs, hl, hv with
  | [v0], _, hv =>
    have r0 := hv 0 _ v0 rfl rfl
    cases r0
    refine (Go.Proofs.Tryz.digit_w b w).mono ?_
    rintro e w' ⟨rfl, rfl⟩
    exact ⟨_, rfl, .str _, Below.refl _ _⟩
theorem Len5_spec (l : List Int) (size : Nat) (rk : List (List Bool)) : PCalls Tryz.prog 13 [shV l size rk] (.int .i64 l.length) := by
  unfold shV cdV
  refine PCalls.of_aw Tryz.func13 rfl (by unfold Callable; kernel_rfl) (by kernel_rfl) (by simp [Tryz.ntmps13]) ?_; rw [Tryz.ntmps13, Tryz.results13]; (simp (disch := first | exact dq | fail) only [go_sem])
  (repeat' first
  | ((with_reducible first | refine Nx.go ?_ | refine rP ?_ | refine rR ?_ | refine And.intro ?_ ?_ | fail) <;> try (simp (disch := first | exact dq | fail) only [go_sem]))
  | ((with_reducible refine Sp.go ?_ ?_) <;> intro h <;> (try (simp (disch := first | exact dq | fail) only [go_sem] at h)) <;> try (simp (disch := first | exact dq | fail) only [go_sem, h])) | fail)
theorem Size5_spec (l : List Int) (size : Nat) (rk : List (List Bool)) : PCalls Tryz.prog 19 [shV l size rk] (.int .i64 size) := by
  unfold shV cdV
  refine PCalls.of_aw Tryz.func19 rfl (by unfold Callable; kernel_rfl) (by kernel_rfl) (by simp [Tryz.ntmps19]) ?_; rw [Tryz.ntmps19, Tryz.results19]; (simp (disch := first | exact dq | fail) only [go_sem])
  (repeat' first
  | ((with_reducible first | refine Nx.go ?_ | refine rP ?_ | refine rR ?_ | refine And.intro ?_ ?_ | fail) <;> try (simp (disch := first | exact dq | fail) only [go_sem]))
  | ((with_reducible refine Sp.go ?_ ?_) <;> intro h <;> (try (simp (disch := first | exact dq | fail) only [go_sem] at h)) <;> try (simp (disch := first | exact dq | fail) only [go_sem, h])) | fail)
@[go_sem] theorem zr_rnk5 : List.mapM constIVcell [Value.int IntKind.i64 0, Value.slice none 0 0, Value.int IntKind.i64 0, Value.int IntKind.i64 0, Value.int IntKind.i64 0, Value.int IntKind.i64 0, Value.slice none 0 0] = some [.int .i64 0, .sl 0 [], .int .i64 0, .int .i64 0, .int .i64 0, .int .i64 0, .sl 0 []] := rfl
theorem key_no {l : List Int} {size : Nat} {rk : List (List Bool)} (h : Shp5 l size rk) {c : Int} (hc : c ∈ l) : findK (.str (bs (cdB (cdF (cnt5 l size) c)))) (keyR rk) 0 = some none := by
  rw [find_key, fdS_none.2 (fun hm => in_all (cd_pf h.rng) ((h.ok.mem _).1 hm) hc rfl)]
theorem sym_at5 {l : List Int} {size : Nat} {rk : List (List Bool)} (h : Shp5 l size rk) {c : Int} (hc : c ∈ l) : ∃ j, findK (.str (bs (cdB (cdF (cnt5 l size) c)))) (keyR ((dst l).map (cdF (cnt5 l size)))) 0 = some (some j) ∧ (((dst l).map (IV.int .i64)).map AV.iv)[j]? = some (.iv (.int .i64 c)) := by
  obtain ⟨j, h1, h2⟩ := fdS_at (x := cdF (cnt5 l size) c) (K := (dst l).map (cdF (cnt5 l size))) (List.mem_map_of_mem ((dst_mem l c).2 hc))
  rw [List.getElem?_map] at h2
  obtain ⟨x, hx, e⟩ := Option.map_eq_some_iff.1 h2
  have hxc : x = c := cd_pf h.rng x ((dst_mem l x).1 (List.mem_of_getElem? hx)) c hc (by rw [e]; exact List.prefix_refl _)
  subst hxc
  exact ⟨j, by rw [find_key, h1], by rw [List.getElem?_map, List.getElem?_map, hx]; rfl⟩
def at5 (l : List Int) (i : Int) : Int := if 0 ≤ i ∧ i < l.length then l.getD i.toNat 0 else -1
set_option maxHeartbeats 4000000 in
theorem At5_spec {l : List Int} {size : Nat} {rk : List (List Bool)} (h : Shp5 l size rk) (i : Int) : PCalls Tryz.prog 11 [shV l size rk, .int .i64 i] (.int .i64 (at5 l i)) := by
  have hln := h.len
  by_cases hc0 : i < 0
  · have c0 : (i < 0) = True := eq_true hc0
    have hr : at5 l i = -1 := if_neg (by omega)
    rw [hr]
    unfold shV cdV
    refine PCalls.of_aw Tryz.func11 rfl (by unfold Callable; kernel_rfl) (by kernel_rfl) (by simp [Tryz.ntmps11]) ?_; rw [Tryz.ntmps11, Tryz.results11]; (simp (maxSteps := 1000000) (disch := first | exact dq | fail) only [go_sem])
    (repeat' first
  | ((with_reducible first | refine Nx.go ?_ | refine rP ?_ | refine rR ?_ | refine And.intro ?_ ?_ | fail) <;> try (simp (maxSteps := 1000000) (disch := first | exact dq | fail) only [go_sem, c0, decide_true]))
  | ((with_reducible refine Sp.go ?_ ?_) <;> intro h <;> (try (simp (maxSteps := 1000000) (disch := first | exact dq | fail) only [go_sem] at h)) <;> try (simp (maxSteps := 1000000) (disch := first | exact dq | fail) only [go_sem, h, c0, decide_true])) | fail)
  have c0 : (i < 0) = False := eq_false hc0
  by_cases hc1 : i ≥ l.length
  · have c1 : (i ≥ (l.length : Int)) = True := eq_true hc1
    have hr : at5 l i = -1 := if_neg (by omega)
    rw [hr]
    unfold shV cdV
    refine PCalls.of_aw Tryz.func11 rfl (by unfold Callable; kernel_rfl) (by kernel_rfl) (by simp [Tryz.ntmps11]) ?_; rw [Tryz.ntmps11, Tryz.results11]; (simp (maxSteps := 1000000) (disch := first | exact dq | fail) only [go_sem])
    (repeat' first
  | ((with_reducible first | refine Nx.go ?_ | refine rP ?_ | refine rR ?_ | refine And.intro ?_ ?_ | fail) <;> try (simp (maxSteps := 1000000) (disch := first | exact dq | fail) only [go_sem, c0, c1, decide_true, decide_false]))
  | ((with_reducible refine Sp.go ?_ ?_) <;> intro h <;> (try (simp (maxSteps := 1000000) (disch := first | exact dq | fail) only [go_sem] at h)) <;> try (simp (maxSteps := 1000000) (disch := first | exact dq | fail) only [go_sem, h, c0, c1, decide_true, decide_false])) | fail)
  have c1 : (i ≥ (l.length : Int)) = False := eq_false hc1
  obtain ⟨n, rfl⟩ : ∃ n : Nat, i = (n : Int) := ⟨i.toNat, by omega⟩
  have hn : n < l.length := by omega
  have hr : at5 l (n : Int) = l.getD n 0 := by unfold at5; rw [if_pos (by omega), Int.toNat_natCast]
  rw [hr]
  have hmem : l.getD n 0 ∈ l := getD_mem hn
  have hcb := cd_bd l size (l.getD n 0) h.s2
  obtain ⟨js, hs1, hs2⟩ := sym_at5 h hmem
  have hno := key_no h hmem
  have hc0n := ct_nil (cdF (cnt5 l size)) l (Nat.le_of_lt hn)
  have hbd := ct_le (cdF (cnt5 l size)) l
  have hin : ∀ k, k < (cdF (cnt5 l size) (l.getD n 0)).length → inN (cdF (cnt5 l size)) l ((cdF (cnt5 l size) (l.getD n 0)).take k) := fun k hk => ⟨l.getD n 0, hmem, List.take_prefix _ _, fun e => by have := congrArg List.length e; rw [List.length_take] at this; omega⟩
  have hnx := fun k hk b => ct_next (cd_pf h.rng) (hin k hk) b n
  have hat := fun k => rw_at (cd := cdF (cnt5 l size)) (p := (cdF (cnt5 l size) (l.getD n 0)).take k) hn (pre_iff.2 (List.take_prefix _ _))
  have hdg : ∀ k, k < (cdF (cnt5 l size) (l.getD n 0)).length → dgC (cdF (cnt5 l size)) ((cdF (cnt5 l size) (l.getD n 0)).take k) (l.getD n 0) = (cdF (cnt5 l size) (l.getD n 0)).getD k false := fun k hk => by
    unfold dgC; rw [List.length_take, Nat.min_eq_left (by omega)]
  generalize l.getD n 0 = c at *
  generalize hC : cdF (cnt5 l size) c = C at *
  unfold shV cdV
  refine PCalls.of_aw Tryz.func11 rfl (by unfold Callable; kernel_rfl) (by kernel_rfl) (by simp [Tryz.ntmps11]) ?_; rw [Tryz.ntmps11, Tryz.results11]; (simp (maxSteps := 1000000) (disch := first | exact dq | fail) only [go_sem])
  (repeat' first
  | ((with_reducible first | refine Nx.go ?_ | refine rP ?_ | refine rR ?_ | refine And.intro ?_ ?_ | fail) <;> try (simp (maxSteps := 1000000) (disch := first | exact dq | fail) only [go_sem, c0, c1, decide_true, decide_false]))
  | ((with_reducible refine Sp.go ?_ ?_) <;> intro h <;> (try (simp (maxSteps := 1000000) (disch := first | exact dq | fail) only [go_sem] at h)) <;> try (simp (maxSteps := 1000000) (disch := first | exact dq | fail) only [go_sem, h, c0, c1, decide_true, decide_false])) | fail)
  refine aw_loop (α := Nat) (fun k => ⟨45, sl [(1, .iv (.int .i64 (ctP (cdF (cnt5 l size)) l (C.take k) n))), (2, .mp 0 0), (5, .iv (.str (bs (cdB (C.take k)))))], [.var 31 [.iv (.int .i64 l.length), .iv (.int .i64 size), .iv (.sl 1 (strR (kdsL (cnt5 l size)))),
      .iv (.map (keyR rk) (rk.map fun p => rankV (rwL (cdF (cnt5 l size)) l p))), .iv (.map (keyR ((dst l).map (cdF (cnt5 l size)))) ((dst l).map (IV.int .i64)))]], 0⟩) (fun k => k ≤ C.length) (fun k => C.length - k) 0 (wk_by [0] ?_) (Nat.zero_le _) ?_
  · have e3 : cdB [] = [] := rfl
    (simp (maxSteps := 1000000) (disch := first | exact dq | fail) only [go_sem, List.take_zero, hc0n, e3])
  rintro k hk
  by_cases hkl : k < C.length
  · obtain ⟨j, hj1, hj2⟩ := key_at h (hin k hkl)
    have hrb := rw_bd h (C.take k)
    obtain ⟨a1, a2⟩ := hat k
    rw [hdg k hkl] at a2
    have hone : oneAt (rwL (cdF (cnt5 l size)) l (C.take k)) (ctP (cdF (cnt5 l size)) l (C.take k) n : Nat) = ((C.getD k false).toNat : Int) := by
      unfold oneAt; rw [if_pos (by omega), Int.toNat_natCast, a2]
    have hO := ROne_spec (rwL (cdF (cnt5 l size)) l (C.take k)) (ctP (cdF (cnt5 l size)) l (C.take k) n : Nat) (by omega)
    rw [hone] at hO
    have htn : C.take (k + 1) = C.take k ++ [C.getD k false] := by
      rw [List.take_succ_eq_append_getElem hkl]; simp [List.getD, List.getElem?_eq_getElem hkl]
    have hnk := hnx k hkl (C.getD k false)
    rw [← htn] at hnk
    have hD := Digit_spec (C.getD k false)
    have happ : cdB (C.take k) ++ cdB [C.getD k false] = cdB (C.take (k + 1)) := by rw [htn, cdB_app]
    have hl1 := cdB_len (C.take k)
    have hl2 : (C.take k).length ≤ k := List.length_take_le _ _
    have hkk : k ≤ 100000 := by omega
    have hl3 := cdB_len [C.getD k false]
    have hR1 := Rank1_spec (rwL (cdF (cnt5 l size)) l (C.take k)) (ctP (cdF (cnt5 l size)) l (C.take k) n) (by omega)
    have hR0 := Rank0_spec (rwL (cdF (cnt5 l size)) l (C.take k)) (ctP (cdF (cnt5 l size)) l (C.take k) n) (by omega)
    rw [Int.toNat_natCast] at hR1 hR0
    rw [← cntB_true] at hR1
    generalize hvv : ((C.getD k false).toNat : Int) = v at *
    cases hb : C.getD k false with
    | true =>
      rw [hb] at hvv hnk happ hD hl3
      have b1 : (v = 1) = True := eq_true hvv.symm
      rw [hnk] at hR1
      (repeat' first
  | ((with_reducible first | refine Nx.go ?_ | refine rP ?_ | refine rR ?_ | refine And.intro ?_ ?_ | fail) <;> try (simp (maxSteps := 1000000) (disch := first | exact dq | fail) only [go_sem, hj1, hj2]))
  | ((with_reducible refine Sp.go ?_ ?_) <;> intro h <;> (try (simp (maxSteps := 1000000) (disch := first | exact dq | fail) only [go_sem] at h)) <;> try (simp (maxSteps := 1000000) (disch := first | exact dq | fail) only [go_sem, h, hj1, hj2])) | fail)
      all_goals (try omega)
      ((with_reducible first | apply left_callf | apply leftD_callf | apply leftF_callf); (· with_reducible rfl); (· (simp (maxSteps := 1000000) (disch := first | exact dq | fail) only [go_sem]) <;> rfl); (· exact hO); try (simp (maxSteps := 1000000) (disch := first | exact dq | fail) only [go_sem]))
      (repeat' first
  | ((with_reducible first | refine Nx.go ?_ | refine rP ?_ | refine rR ?_ | refine And.intro ?_ ?_ | fail) <;> try (simp (maxSteps := 1000000) (disch := first | exact dq | fail) only [go_sem]))
  | ((with_reducible refine Sp.go ?_ ?_) <;> intro h <;> (try (simp (maxSteps := 1000000) (disch := first | exact dq | fail) only [go_sem] at h)) <;> try (simp (maxSteps := 1000000) (disch := first | exact dq | fail) only [go_sem, h])) | fail)
      ((with_reducible first | apply left_callf | apply leftD_callf | apply leftF_callf); (· with_reducible rfl); (· (simp (maxSteps := 1000000) (disch := first | exact dq | fail) only [go_sem]) <;> rfl); (· exact hD); try (simp (maxSteps := 1000000) (disch := first | exact dq | fail) only [go_sem]))
      (repeat' first
  | ((with_reducible first | refine Nx.go ?_ | refine rP ?_ | refine rR ?_ | refine And.intro ?_ ?_ | fail) <;> try (simp (maxSteps := 1000000) (disch := first | exact dq | fail) only [go_sem, happ, hl1, hl3, b1, decide_true]))
  | ((with_reducible refine Sp.go ?_ ?_) <;> intro h <;> (try (simp (maxSteps := 1000000) (disch := first | exact dq | fail) only [go_sem] at h)) <;> try (simp (maxSteps := 1000000) (disch := first | exact dq | fail) only [go_sem, h, happ, hl1, hl3, b1, decide_true])) | fail)
      all_goals (try omega)
      ((with_reducible first | apply left_callf | apply leftD_callf | apply leftF_callf); (· with_reducible rfl); (· (simp (maxSteps := 1000000) (disch := first | exact dq | fail) only [go_sem]) <;> rfl); (· exact hR1); try (simp (maxSteps := 1000000) (disch := first | exact dq | fail) only [go_sem]))
      (repeat' first
  | ((with_reducible first | refine Nx.go ?_ | refine rP ?_ | refine rR ?_ | refine And.intro ?_ ?_ | fail) <;> try (simp (maxSteps := 1000000) (disch := first | exact dq | fail) only [go_sem]))
  | ((with_reducible refine Sp.go ?_ ?_) <;> intro h <;> (try (simp (maxSteps := 1000000) (disch := first | exact dq | fail) only [go_sem] at h)) <;> try (simp (maxSteps := 1000000) (disch := first | exact dq | fail) only [go_sem, h])) | fail)
      refine ⟨k + 1, by omega, wk_by [0] ?_, by omega⟩
      (simp (maxSteps := 1000000) (disch := first | exact dq | fail) only [go_sem])
    | false =>
      rw [hb] at hvv hnk happ hD hl3
      have b1 : (v = 1) = False := eq_false (fun e => by rw [e] at hvv; exact absurd hvv (by decide))
      rw [hnk] at hR0
      (repeat' first
  | ((with_reducible first | refine Nx.go ?_ | refine rP ?_ | refine rR ?_ | refine And.intro ?_ ?_ | fail) <;> try (simp (maxSteps := 1000000) (disch := first | exact dq | fail) only [go_sem, hj1, hj2]))
  | ((with_reducible refine Sp.go ?_ ?_) <;> intro h <;> (try (simp (maxSteps := 1000000) (disch := first | exact dq | fail) only [go_sem] at h)) <;> try (simp (maxSteps := 1000000) (disch := first | exact dq | fail) only [go_sem, h, hj1, hj2])) | fail)
      all_goals (try omega)
      ((with_reducible first | apply left_callf | apply leftD_callf | apply leftF_callf); (· with_reducible rfl); (· (simp (maxSteps := 1000000) (disch := first | exact dq | fail) only [go_sem]) <;> rfl); (· exact hO); try (simp (maxSteps := 1000000) (disch := first | exact dq | fail) only [go_sem]))
      (repeat' first
  | ((with_reducible first | refine Nx.go ?_ | refine rP ?_ | refine rR ?_ | refine And.intro ?_ ?_ | fail) <;> try (simp (maxSteps := 1000000) (disch := first | exact dq | fail) only [go_sem]))
  | ((with_reducible refine Sp.go ?_ ?_) <;> intro h <;> (try (simp (maxSteps := 1000000) (disch := first | exact dq | fail) only [go_sem] at h)) <;> try (simp (maxSteps := 1000000) (disch := first | exact dq | fail) only [go_sem, h])) | fail)
      ((with_reducible first | apply left_callf | apply leftD_callf | apply leftF_callf); (· with_reducible rfl); (· (simp (maxSteps := 1000000) (disch := first | exact dq | fail) only [go_sem]) <;> rfl); (· exact hD); try (simp (maxSteps := 1000000) (disch := first | exact dq | fail) only [go_sem]))
      (repeat' first
  | ((with_reducible first | refine Nx.go ?_ | refine rP ?_ | refine rR ?_ | refine And.intro ?_ ?_ | fail) <;> try (simp (maxSteps := 1000000) (disch := first | exact dq | fail) only [go_sem, happ, hl1, hl3, b1, decide_true, decide_false]))
  | ((with_reducible refine Sp.go ?_ ?_) <;> intro h <;> (try (simp (maxSteps := 1000000) (disch := first | exact dq | fail) only [go_sem] at h)) <;> try (simp (maxSteps := 1000000) (disch := first | exact dq | fail) only [go_sem, h, happ, hl1, hl3, b1, decide_true, decide_false])) | fail)
      all_goals (try omega)
      ((with_reducible first | apply left_callf | apply leftD_callf | apply leftF_callf); (· with_reducible rfl); (· (simp (maxSteps := 1000000) (disch := first | exact dq | fail) only [go_sem]) <;> rfl); (· exact hR0); try (simp (maxSteps := 1000000) (disch := first | exact dq | fail) only [go_sem]))
      (repeat' first
  | ((with_reducible first | refine Nx.go ?_ | refine rP ?_ | refine rR ?_ | refine And.intro ?_ ?_ | fail) <;> try (simp (maxSteps := 1000000) (disch := first | exact dq | fail) only [go_sem]))
  | ((with_reducible refine Sp.go ?_ ?_) <;> intro h <;> (try (simp (maxSteps := 1000000) (disch := first | exact dq | fail) only [go_sem] at h)) <;> try (simp (maxSteps := 1000000) (disch := first | exact dq | fail) only [go_sem, h])) | fail)
      refine ⟨k + 1, by omega, wk_by [0] ?_, by omega⟩
      (simp (maxSteps := 1000000) (disch := first | exact dq | fail) only [go_sem])
  · obtain rfl : k = C.length := by omega
    rw [List.take_length]
    (repeat' first
  | ((with_reducible first | refine Nx.go ?_ | refine rP ?_ | refine rR ?_ | refine And.intro ?_ ?_ | fail) <;> try (simp (maxSteps := 1000000) (disch := first | exact dq | fail) only [go_sem, hno, hs1, hs2]))
  | ((with_reducible refine Sp.go ?_ ?_) <;> intro h <;> (try (simp (maxSteps := 1000000) (disch := first | exact dq | fail) only [go_sem] at h)) <;> try (simp (maxSteps := 1000000) (disch := first | exact dq | fail) only [go_sem, h, hno, hs1, hs2])) | fail)
set_option maxHeartbeats 1000000 in
theorem List5_spec {l : List Int} {size : Nat} {rk : List (List Bool)} (h : Shp5 l size rk) : PCalls Tryz.prog 18 [shV l size rk] (inl l) := by
  have hln := h.len
  have hA := fun i : Nat => At5_spec h i
  have hai : ∀ i : Nat, i < l.length → at5 l (i : Int) = l.getD i 0 := fun i hi => by unfold at5; rw [if_pos (by omega), Int.toNat_natCast]
  have hto : (l.map (IV.int .i64)).take l.length = l.map (IV.int .i64) := List.take_of_length_le (by rw [List.length_map]; omega)
  unfold shV cdV at *
  refine PCalls.of_aw Tryz.func18 rfl (by unfold Callable; kernel_rfl) (by kernel_rfl) (by simp [Tryz.ntmps18]) ?_; rw [Tryz.ntmps18, Tryz.results18]; (simp (maxSteps := 1000000) (disch := first | exact dq | fail) only [go_sem])
  (repeat' first
  | ((with_reducible first | refine Nx.go ?_ | refine rP ?_ | refine rR ?_ | refine And.intro ?_ ?_ | fail) <;> try (simp (maxSteps := 1000000) (disch := first | exact dq | fail) only [go_sem]))
  | ((with_reducible refine Sp.go ?_ ?_) <;> intro h <;> (try (simp (maxSteps := 1000000) (disch := first | exact dq | fail) only [go_sem] at h)) <;> try (simp (maxSteps := 1000000) (disch := first | exact dq | fail) only [go_sem, h])) | fail)
  refine aw_loop (α := Nat) (fun i => ⟨18, sl [(1, .mp 0 0), (3, .msl 1 0 i i), (6, .iv (.int .i64 l.length)), (7, .iv (.int .i64 i))], [.var 31 [.iv (.int .i64 l.length), .iv (.int .i64 size), .iv (.sl 1 (strR (kdsL (cnt5 l size)))),
      .iv (.map (keyR rk) (rk.map fun p => rankV (rwL (cdF (cnt5 l size)) l p))), .iv (.map (keyR ((dst l).map (cdF (cnt5 l size)))) ((dst l).map (IV.int .i64)))], .row true 3 1 ((l.take i).map (IV.int .i64))], 0⟩) (fun i => i ≤ l.length) (fun i => l.length - i) 0 (wk_by [0, 2] ?_) (Nat.zero_le _) ?_
  · (simp (maxSteps := 1000000) (disch := first | exact dq | fail) only [go_sem])
  rintro i hi
  have htl : (l.take i).length = i := by rw [List.length_take]; omega
  by_cases hil : i < l.length
  · have c0 : (i : Int) < l.length := by omega
    have ht := take_snoc l hil
    have hAi := hA i
    rw [hai i hil] at hAi
    (repeat' first
  | ((with_reducible first | refine Nx.go ?_ | refine rP ?_ | refine rR ?_ | refine And.intro ?_ ?_ | fail) <;> try (simp (maxSteps := 1000000) (disch := first | exact dq | fail) only [go_sem, c0, decide_true]))
  | ((with_reducible refine Sp.go ?_ ?_) <;> intro h <;> (try (simp (maxSteps := 1000000) (disch := first | exact dq | fail) only [go_sem] at h)) <;> try (simp (maxSteps := 1000000) (disch := first | exact dq | fail) only [go_sem, h, c0, decide_true])) | fail)
    ((with_reducible first | apply left_callf | apply leftD_callf | apply leftF_callf); (· with_reducible rfl); (· (simp (maxSteps := 1000000) (disch := first | exact dq | fail) only [go_sem]) <;> rfl); (· exact hAi); try (simp (maxSteps := 1000000) (disch := first | exact dq | fail) only [go_sem]))
    (repeat' first
  | ((with_reducible first | refine Nx.go ?_ | refine rP ?_ | refine rR ?_ | refine And.intro ?_ ?_ | fail) <;> try (simp (maxSteps := 1000000) (disch := first | exact dq | fail) only [go_sem, htl]))
  | ((with_reducible refine Sp.go ?_ ?_) <;> intro h <;> (try (simp (maxSteps := 1000000) (disch := first | exact dq | fail) only [go_sem] at h)) <;> try (simp (maxSteps := 1000000) (disch := first | exact dq | fail) only [go_sem, h, htl])) | fail)
    all_goals (try omega)
    refine ⟨i + 1, by omega, wk_by [0, 1] ?_, by omega⟩
    (simp (maxSteps := 1000000) (disch := first | exact dq | fail) only [go_sem, ht, List.map_append])
  · obtain rfl : i = l.length := by omega
    have c0 : ¬ ((l.length : Int) < l.length) := by omega
    rw [List.take_length] at htl ⊢
    (repeat' first
  | ((with_reducible first | refine Nx.go ?_ | refine rP ?_ | refine rR ?_ | refine And.intro ?_ ?_ | fail) <;> try (simp (maxSteps := 1000000) (disch := first | exact dq | fail) only [go_sem, c0, decide_false, htl, hto]))
  | ((with_reducible refine Sp.go ?_ ?_) <;> intro h <;> (try (simp (maxSteps := 1000000) (disch := first | exact dq | fail) only [go_sem] at h)) <;> try (simp (maxSteps := 1000000) (disch := first | exact dq | fail) only [go_sem, h, c0, decide_false, htl, hto])) | fail)
    all_goals (try omega)
theorem cP_step (p : Int → Bool) (l : List Int) (i : Nat) : cP p l (i + 1) = cP p l i + (if p (l.getD i 0) = true then 1 else 0) := rfl
theorem cP_mono (p : Int → Bool) (l : List Int) {i j : Nat} (h : i ≤ j) : cP p l i ≤ cP p l j := by
  induction h with
  | refl => exact Nat.le_refl _
  | step _ ih => rw [cP_step]; omega
theorem cP_hit {p : Int → Bool} {l : List Int} {k : Nat} : ∀ {n : Nat}, n ≤ l.length → k < cP p l n → ∃ q, q < n ∧ p (l.getD q 0) = true ∧ cP p l q = k
  | 0, _, h => absurd h (Nat.not_lt_zero _)
  | n + 1, hn, h => by
    by_cases g : k < cP p l n
    · obtain ⟨q, h1, h2, h3⟩ := cP_hit (n := n) (by omega) g
      exact ⟨q, by omega, h2, h3⟩
    · rw [cP_step] at h
      by_cases e : p (l.getD n 0) = true
      · rw [if_pos e] at h
        exact ⟨n, Nat.lt_succ_self n, e, by omega⟩
      · rw [if_neg e] at h; omega
theorem rk5_all (l : List Int) (c : Int) : rk5 l c l.length = cP (fun x => decide (x = c)) l l.length := by
  unfold rk5
  congr 1
  omega
theorem Sel5_out {l : List Int} {size : Nat} {rk : List (List Bool)} (h : Shp5 l size rk) (c k : Int) (hk : k < 0 ∨ (cP (fun x => decide (x = c)) l l.length : Int) ≤ k) : PCalls Tryz.prog 10 [shV l size rk, .int .i64 c, .int .i64 k] (.int .i64 (-1)) := by
  have hR := Rank5_spec h c l.length
  rw [rk5_all] at hR
  by_cases h0 : k < 0
  · have c0 : (k < 0) = True := eq_true h0
    unfold shV cdV
    refine PCalls.of_aw Tryz.func10 rfl (by unfold Callable; kernel_rfl) (by kernel_rfl) (by simp [Tryz.ntmps10]) ?_; rw [Tryz.ntmps10, Tryz.results10]; (simp (disch := first | exact dq | fail) only [go_sem])
    (repeat' first
  | ((with_reducible first | refine Nx.go ?_ | refine rP ?_ | refine rR ?_ | refine And.intro ?_ ?_ | fail) <;> try (simp (disch := first | exact dq | fail) only [go_sem, c0, decide_true]))
  | ((with_reducible refine Sp.go ?_ ?_) <;> intro h <;> (try (simp (disch := first | exact dq | fail) only [go_sem] at h)) <;> try (simp (disch := first | exact dq | fail) only [go_sem, h, c0, decide_true])) | fail)
  · have c0 : (k < 0) = False := eq_false h0
    have c1 : (k ≥ (cP (fun x => decide (x = c)) l l.length : Int)) = True := eq_true (by omega)
    unfold shV cdV at *
    refine PCalls.of_aw Tryz.func10 rfl (by unfold Callable; kernel_rfl) (by kernel_rfl) (by simp [Tryz.ntmps10]) ?_; rw [Tryz.ntmps10, Tryz.results10]; (simp (disch := first | exact dq | fail) only [go_sem])
    (repeat' first
  | ((with_reducible first | refine Nx.go ?_ | refine rP ?_ | refine rR ?_ | refine And.intro ?_ ?_ | fail) <;> try (simp (disch := first | exact dq | fail) only [go_sem, c0, decide_false]))
  | ((with_reducible refine Sp.go ?_ ?_) <;> intro h <;> (try (simp (disch := first | exact dq | fail) only [go_sem] at h)) <;> try (simp (disch := first | exact dq | fail) only [go_sem, h, c0, decide_false])) | fail)
    ((with_reducible first | apply left_callf | apply leftD_callf | apply leftF_callf); (· with_reducible rfl); (· (simp (disch := first | exact dq | fail) only [go_sem]) <;> rfl); (· exact hR); try (simp (disch := first | exact dq | fail) only [go_sem]))
    (repeat' first
  | ((with_reducible first | refine Nx.go ?_ | refine rP ?_ | refine rR ?_ | refine And.intro ?_ ?_ | fail) <;> try (simp (disch := first | exact dq | fail) only [go_sem, c1, decide_true]))
  | ((with_reducible refine Sp.go ?_ ?_) <;> intro h <;> (try (simp (disch := first | exact dq | fail) only [go_sem] at h)) <;> try (simp (disch := first | exact dq | fail) only [go_sem, h, c1, decide_true])) | fail)
set_option maxHeartbeats 4000000 in
theorem Sel5_in {l : List Int} {size : Nat} {rk : List (List Bool)} (h : Shp5 l size rk) (c : Int) (q : Nat) (hq : q < l.length) (hqc : l.getD q 0 = c) : PCalls Tryz.prog 10 [shV l size rk, .int .i64 c, .int .i64 (cP (fun x => decide (x = c)) l q : Nat)] (.int .i64 q) := by
  have hR := Rank5_spec h c l.length
  rw [rk5_all] at hR
  have hln := h.len
  have hlt : cP (fun x => decide (x = c)) l q < cP (fun x => decide (x = c)) l l.length := by
    have h1 := cP_mono (fun x => decide (x = c)) l (show q + 1 ≤ l.length by omega)
    rw [cP_step, if_pos (by rw [hqc]; exact decide_eq_true rfl)] at h1
    omega
  have hc : c ∈ l := by rw [← hqc]; exact getD_mem hq
  have hcr := h.rng c hc
  have hsl := code_len l size
  have h2 := h.s2
  have hca := code_at l size (c := c) hcr
  have hcb := cd_bd l size c h2
  have hcl := cdB_len (cdF (cnt5 l size) c)
  have hwh := ct_whole (cd_pf h.rng) hc q (Nat.le_of_lt hq)
  have hc0n := ct_nil (cdF (cnt5 l size)) l (Nat.le_of_lt hq)
  have hbd := ct_le (cdF (cnt5 l size)) l
  have hin : ∀ k, k < (cdF (cnt5 l size) c).length → inN (cdF (cnt5 l size)) l ((cdF (cnt5 l size) c).take k) := fun k hk => ⟨c, hc, List.take_prefix _ _, fun e => by have := congrArg List.length e; rw [List.length_take] at this; omega⟩
  have hsb : ∀ k, k < (cdF (cnt5 l size) c).length → selB (rwL (cdF (cnt5 l size)) l ((cdF (cnt5 l size) c).take k)) ((cdF (cnt5 l size) c).getD k false) (ctP (cdF (cnt5 l size)) l ((cdF (cnt5 l size) c).take (k + 1)) q) = ctP (cdF (cnt5 l size)) l ((cdF (cnt5 l size) c).take k) q := fun k hk => by
    have htn : (cdF (cnt5 l size) c).take (k + 1) = (cdF (cnt5 l size) c).take k ++ [(cdF (cnt5 l size) c).getD k false] := by
      rw [List.take_succ_eq_append_getElem hk]; simp [List.getD, List.getElem?_eq_getElem hk]
    rw [htn]
    refine sel_back (cd_pf h.rng) hq ?_
    rw [hqc, ← htn]
    exact pre_iff.2 (List.take_prefix _ _)
  rw [← hwh]
  rw [← hwh] at hlt
  generalize hC : cdF (cnt5 l size) c = C at *
  have c0 : ((ctP (cdF (cnt5 l size)) l C q : Int) < 0) = False := eq_false (by omega)
  have c1 : ((ctP (cdF (cnt5 l size)) l C q : Int) ≥ (cP (fun x => decide (x = c)) l l.length : Int)) = False := eq_false (by omega)
  unfold shV cdV at *
  refine PCalls.of_aw Tryz.func10 rfl (by unfold Callable; kernel_rfl) (by kernel_rfl) (by simp [Tryz.ntmps10]) ?_; rw [Tryz.ntmps10, Tryz.results10]; (simp (maxSteps := 1000000) (disch := first | exact dq | fail) only [go_sem])
  (repeat' first
  | ((with_reducible first | refine Nx.go ?_ | refine rP ?_ | refine rR ?_ | refine And.intro ?_ ?_ | fail) <;> try (simp (maxSteps := 1000000) (disch := first | exact dq | fail) only [go_sem, c0, decide_false]))
  | ((with_reducible refine Sp.go ?_ ?_) <;> intro h <;> (try (simp (maxSteps := 1000000) (disch := first | exact dq | fail) only [go_sem] at h)) <;> try (simp (maxSteps := 1000000) (disch := first | exact dq | fail) only [go_sem, h, c0, decide_false])) | fail)
  ((with_reducible first | apply left_callf | apply leftD_callf | apply leftF_callf); (· with_reducible rfl); (· (simp (maxSteps := 1000000) (disch := first | exact dq | fail) only [go_sem]) <;> rfl); (· exact hR); try (simp (maxSteps := 1000000) (disch := first | exact dq | fail) only [go_sem]))
  (repeat' first
  | ((with_reducible first | refine Nx.go ?_ | refine rP ?_ | refine rR ?_ | refine And.intro ?_ ?_ | fail) <;> try (simp (maxSteps := 1000000) (disch := first | exact dq | fail) only [go_sem, c1, decide_false, hca, hsl, hcl]))
  | ((with_reducible refine Sp.go ?_ ?_) <;> intro h <;> (try (simp (maxSteps := 1000000) (disch := first | exact dq | fail) only [go_sem] at h)) <;> try (simp (maxSteps := 1000000) (disch := first | exact dq | fail) only [go_sem, h, c1, decide_false, hca, hsl, hcl])) | fail)
  all_goals (try omega)
  refine aw_loop (α := Nat) (fun k => ⟨50, sl [(2, .iv (.int .i64 (ctP (cdF (cnt5 l size)) l (C.take k) q))), (3, .mp 0 0), (7, .iv (.str (bs (cdB C)))), (8, .iv (.int .i64 ((k : Int) - 1)))], [.var 31 [.iv (.int .i64 l.length), .iv (.int .i64 size), .iv (.sl 1 (strR (kdsL (cnt5 l size)))),
      .iv (.map (keyR rk) (rk.map fun p => rankV (rwL (cdF (cnt5 l size)) l p))), .iv (.map (keyR ((dst l).map (cdF (cnt5 l size)))) ((dst l).map (IV.int .i64)))]], 0⟩) (fun k => k ≤ C.length) (fun k => k) C.length (wk_by [0] ?_) (Nat.le_refl _) ?_
  · (simp (maxSteps := 1000000) (disch := first | exact dq | fail) only [go_sem, List.take_length])
  rintro k hk
  cases k with
  | zero =>
    have e0 : (((0 : Nat) : Int) - 1) = -1 := by omega
    have d0 : ¬ ((-1 : Int) ≥ 0) := by omega
    rw [e0, List.take_zero, hc0n]
    (repeat' first
  | ((with_reducible first | refine Nx.go ?_ | refine rP ?_ | refine rR ?_ | refine And.intro ?_ ?_ | fail) <;> try (simp (maxSteps := 1000000) (disch := first | exact dq | fail) only [go_sem, d0, decide_false]))
  | ((with_reducible refine Sp.go ?_ ?_) <;> intro h <;> (try (simp (maxSteps := 1000000) (disch := first | exact dq | fail) only [go_sem] at h)) <;> try (simp (maxSteps := 1000000) (disch := first | exact dq | fail) only [go_sem, h, d0, decide_false])) | fail)
  | succ k =>
    have e0 : (((k + 1 : Nat) : Int) - 1) = (k : Int) := by omega
    have d0 : ((k : Int) ≥ 0) := by omega
    rw [e0]
    obtain ⟨j, hj1, hj2⟩ := key_at h (hin k (by omega))
    have hrb := rw_bd h (C.take k)
    have htk2 : (cdB C).take k = cdB (C.take k) := cdB_take _ _
    have hg : (cdB C).getD k 0 = dg (C.getD k false) := by
      unfold cdB
      simp [List.getD, List.getElem?_eq_getElem (show k < C.length by omega)]
    have hgi := dg_eq (C.getD k false)
    have hsk := hsb k (by omega)
    have hS1 := Select1_spec (rwL (cdF (cnt5 l size)) l (C.take k)) (ctP (cdF (cnt5 l size)) l (C.take (k + 1)) q) (by omega)
    have hS0 := Select0_spec (rwL (cdF (cnt5 l size)) l (C.take k)) (ctP (cdF (cnt5 l size)) l (C.take (k + 1)) q) (by omega)
    cases hb : C.getD k false with
    | true =>
      rw [hb] at hg hgi hsk
      rw [if_pos rfl] at hgi
      rw [hsk] at hS1
      (repeat' first
  | ((with_reducible first | refine Nx.go ?_ | refine rP ?_ | refine rR ?_ | refine And.intro ?_ ?_ | fail) <;> try (simp (maxSteps := 1000000) (disch := first | exact dq | fail) only [go_sem, d0, decide_true, hcl, htk2, hj1, hj2, hg, hgi]))
  | ((with_reducible refine Sp.go ?_ ?_) <;> intro h <;> (try (simp (maxSteps := 1000000) (disch := first | exact dq | fail) only [go_sem] at h)) <;> try (simp (maxSteps := 1000000) (disch := first | exact dq | fail) only [go_sem, h, d0, decide_true, hcl, htk2, hj1, hj2, hg, hgi])) | fail)
      all_goals (try omega)
      ((with_reducible first | apply left_callf | apply leftD_callf | apply leftF_callf); (· with_reducible rfl); (· (simp (maxSteps := 1000000) (disch := first | exact dq | fail) only [go_sem]) <;> rfl); (· exact hS1); try (simp (maxSteps := 1000000) (disch := first | exact dq | fail) only [go_sem]))
      (repeat' first
  | ((with_reducible first | refine Nx.go ?_ | refine rP ?_ | refine rR ?_ | refine And.intro ?_ ?_ | fail) <;> try (simp (maxSteps := 1000000) (disch := first | exact dq | fail) only [go_sem]))
  | ((with_reducible refine Sp.go ?_ ?_) <;> intro h <;> (try (simp (maxSteps := 1000000) (disch := first | exact dq | fail) only [go_sem] at h)) <;> try (simp (maxSteps := 1000000) (disch := first | exact dq | fail) only [go_sem, h])) | fail)
      all_goals (try omega)
      refine ⟨k, by omega, wk_by [0] ?_, by omega⟩
      (simp (maxSteps := 1000000) (disch := first | exact dq | fail) only [go_sem])
    | false =>
      rw [hb] at hg hgi hsk
      rw [if_neg (by simp)] at hgi
      rw [hsk] at hS0
      have c2 : ¬ ((48 : Int) = 49) := by omega
      (repeat' first
  | ((with_reducible first | refine Nx.go ?_ | refine rP ?_ | refine rR ?_ | refine And.intro ?_ ?_ | fail) <;> try (simp (maxSteps := 1000000) (disch := first | exact dq | fail) only [go_sem, d0, decide_true, decide_false, hcl, htk2, hj1, hj2, hg, hgi, c2]))
  | ((with_reducible refine Sp.go ?_ ?_) <;> intro h <;> (try (simp (maxSteps := 1000000) (disch := first | exact dq | fail) only [go_sem] at h)) <;> try (simp (maxSteps := 1000000) (disch := first | exact dq | fail) only [go_sem, h, d0, decide_true, decide_false, hcl, htk2, hj1, hj2, hg, hgi, c2])) | fail)
      all_goals (try omega)
      ((with_reducible first | apply left_callf | apply leftD_callf | apply leftF_callf); (· with_reducible rfl); (· (simp (maxSteps := 1000000) (disch := first | exact dq | fail) only [go_sem]) <;> rfl); (· exact hS0); try (simp (maxSteps := 1000000) (disch := first | exact dq | fail) only [go_sem]))
      (repeat' first
  | ((with_reducible first | refine Nx.go ?_ | refine rP ?_ | refine rR ?_ | refine And.intro ?_ ?_ | fail) <;> try (simp (maxSteps := 1000000) (disch := first | exact dq | fail) only [go_sem]))
  | ((with_reducible refine Sp.go ?_ ?_) <;> intro h <;> (try (simp (maxSteps := 1000000) (disch := first | exact dq | fail) only [go_sem] at h)) <;> try (simp (maxSteps := 1000000) (disch := first | exact dq | fail) only [go_sem, h])) | fail)
      all_goals (try omega)
      refine ⟨k, by omega, wk_by [0] ?_, by omega⟩
      (simp (maxSteps := 1000000) (disch := first | exact dq | fail) only [go_sem])
end Go.Proofs.YtpjncojljamacaaGreat.AM
