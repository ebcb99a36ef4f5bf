
/- Chapter 5: what all of a shaped row cost. Rows that New made. -/
import Derived.Test.YtpjncojljamacaaGreatZR
import Derived.Test.YtpjncojljamacaaGreatK3
set_option linter.unusedVariables false
set_option linter.unusedSimpArgs false
set_option maxRecDepth 20000
namespace Go.Proofs.YtpjncojljamacaaGreat.AM
open Go Go.RowKit

def costL (cd : Int → List Bool) (l : List Int) : Nat := (l.map fun a => (cd a).length).sum
theorem swap_sum {α β : Type} (q : α → β → Bool) : ∀ (l : List β) (K : List α), (K.map fun p => l.countP (q p)).sum = (l.map fun a => K.countP (fun p => q p a)).sum
  | [], K => by induction K with
    | nil => rfl
    | cons p K ih => rw [List.map_cons, List.sum_cons, ih]; rfl
  | a :: l, K => by
    rw [List.map_cons, List.sum_cons, ← swap_sum q l K]
    induction K with
    | nil => rfl
    | cons p K ih =>
      rw [List.map_cons, List.sum_cons, List.map_cons, List.sum_cons, ih, List.countP_cons, List.countP_cons]
      omega
theorem proper_count {cd : Int → List Bool} {l : List Int} {rk : List (List Bool)} (hP : PfC cd l) (hn : rk.Nodup) (hm : ∀ p, p ∈ rk ↔ inN cd l p) {a : Int} (ha : a ∈ l) : rk.countP (fun p => preC cd p a) = (cd a).length := by
  have hp : (rk.filter (fun p => preC cd p a)).Perm ((List.range (cd a).length).map fun k => (cd a).take k) := by
    have hnd : ((List.range (cd a).length).map fun k => (cd a).take k).Nodup := by
      unfold List.Nodup
      rw [List.pairwise_map]
      refine List.pairwise_lt_range.imp_of_mem (fun {i j} hi hj hij e => ?_)
      have := congrArg List.length e
      rw [List.mem_range] at hi hj
      rw [List.length_take, List.length_take] at this
      omega
    refine (List.perm_ext_iff_of_nodup (hn.filter _) hnd).2 (fun p => ?_)
    rw [List.mem_filter, hm, List.mem_map, pre_iff]
    constructor
    · rintro ⟨h1, h2⟩
      have hne := in_all hP h1 ha
      have hlt : p.length < (cd a).length := by
        rcases Nat.lt_or_eq_of_le h2.length_le with g | g
        · exact g
        · exact absurd (h2.eq_of_length g).symm hne
      exact ⟨p.length, List.mem_range.2 hlt, (take_pre h2).symm⟩
    · rintro ⟨k, hk, rfl⟩
      rw [List.mem_range] at hk
      exact ⟨⟨a, ha, List.take_prefix _ _, fun e => by have := congrArg List.length e; rw [List.length_take] at this; omega⟩, List.take_prefix _ _⟩
  rw [List.countP_eq_length_filter, hp.length_eq, List.length_map, List.length_range]
theorem cost_eq {cd : Int → List Bool} {l : List Int} {rk : List (List Bool)} (hP : PfC cd l) (hn : rk.Nodup) (hm : ∀ p, p ∈ rk ↔ inN cd l p) : (rk.map fun p => (rwL cd l p).length).sum = costL cd l := by
  have e : rk.map (fun p => (rwL cd l p).length) = rk.map (fun p => l.countP (preC cd p)) := List.map_congr_left (fun p _ => by
    unfold rwL sbL
    rw [List.length_map, List.countP_eq_length_filter])
  rw [e, swap_sum]
  unfold costL
  congr 1
  exact List.map_congr_left (fun a ha => proper_count hP hn hm ha)
theorem sum_le_of {f : Nat → Nat} {sn : List Nat} {n : Nat} (h : sn.Nodup) (hl : ∀ j ∈ sn, j < n) : (sn.map f).sum ≤ ((List.range n).map f).sum := by
  have hp : sn.Perm ((List.range n).filter (fun j => decide (j ∈ sn))) := (List.perm_ext_iff_of_nodup h (List.nodup_range.filter _)).2 (fun j => by
    rw [List.mem_filter, List.mem_range, decide_eq_true_eq]
    exact ⟨fun g => ⟨hl j g, g⟩, fun g => g.2⟩)
  rw [(hp.map f).sum_nat]
  have : ∀ L : List Nat, ((L.filter (fun j => decide (j ∈ sn))).map f).sum ≤ (L.map f).sum := by
    intro L
    induction L with
    | nil => exact Nat.le_refl _
    | cons x L ih =>
      by_cases g : x ∈ sn
      · rw [List.filter_cons_of_pos (by simpa using g), List.map_cons, List.sum_cons, List.map_cons, List.sum_cons]; omega
      · rw [List.filter_cons_of_neg (by simpa using g), List.map_cons, List.sum_cons]; omega
  exact this _
theorem sum_all_of {f : Nat → Nat} {sn : List Nat} {n : Nat} (h : sn.Nodup) (hl : ∀ j ∈ sn, j < n) (ha : ∀ j, j < n → j ∈ sn) : (sn.map f).sum = ((List.range n).map f).sum := by
  have hp : sn.Perm (List.range n) := (List.perm_ext_iff_of_nodup h List.nodup_range).2 (fun j => by
    rw [List.mem_range]
    exact ⟨hl j, ha j⟩)
  exact (hp.map f).sum_nat
theorem range_rk (rk : List (List Bool)) (f : List Bool → Nat) : (List.range rk.length).map (fun j => f (rk.getD j [])) = rk.map f := by
  apply List.ext_getElem (by simp)
  intro i h1 h2
  have : i < rk.length := by simpa using h2
  simp [List.getD, List.getElem?_eq_getElem this]
theorem cost_bd {l : List Int} {size : Nat} (hl : l.length ≤ 100000) (h2 : size ≤ 65536) : costL (cdF (cnt5 l size)) l ≤ 10000000000 := by
  have : ∀ L : List Int, (L.map fun a => (cdF (cnt5 l size) a).length).sum ≤ L.length * 100000 := by
    intro L
    induction L with
    | nil => exact Nat.le_refl _
    | cons a L ih =>
      have := cd_bd l size a h2
      rw [List.map_cons, List.sum_cons, List.length_cons]; omega
  exact Nat.le_trans (this l) (Nat.mul_le_mul_right 100000 hl)
set_option maxHeartbeats 1000000 in
theorem Cost5_spec {l : List Int} {size : Nat} {rk : List (List Bool)} (h : Shp5 l size rk) : PCalls Tryz.prog 20 [shV l size rk] (.int .i64 (costL (cdF (cnt5 l size)) l : Nat)) := by
  have hce := cost_eq (cd_pf h.rng) h.ok.nd h.ok.mem
  have hcb := cost_bd (size := size) h.len h.s2
  have hkl : (keyR rk).length = rk.length := List.length_map _
  have hrl := range_rk rk (fun p => (rwL (cdF (cnt5 l size)) l p).length)
  have hRL := fun p => RLen_spec (rwL (cdF (cnt5 l size)) l p)
  unfold shV cdV
  refine PCalls.of_aw Tryz.func20 rfl (by unfold Callable; kernel_rfl) (by kernel_rfl) (by simp [Tryz.ntmps20]) ?_; rw [Tryz.ntmps20, Tryz.results20]; (simp (maxSteps := 1000000) (disch := first | exact dq | fail) only [go_sem])
  (repeat' first
  | ((with_reducible first | refine Nx.go ?_ | refine rP ?_ | refine rR ?_ | refine And.intro ?_ ?_ | fail) <;> try (simp (maxSteps := 1000000) (disch := first | exact dq | fail) only [go_sem, hkl]))
  | ((with_reducible refine Sp.go ?_ ?_) <;> intro h <;> (try (simp (maxSteps := 1000000) (disch := first | exact dq | fail) only [go_sem] at h)) <;> try (simp (maxSteps := 1000000) (disch := first | exact dq | fail) only [go_sem, h, hkl])) | fail)
  refine aw_loop (α := List Nat) (fun sn => ⟨18, sl [(3, .iv (.int .i64 ((sn.map fun j => (rwL (cdF (cnt5 l size)) l (rk.getD j [])).length).sum : Nat))), (8, .it 1)], [.var 31 [.iv (.int .i64 l.length), .iv (.int .i64 size), .iv (.sl 1 (strR (kdsL (cnt5 l size)))),
      .iv (.map (keyR rk) (rk.map fun p => rankV (rwL (cdF (cnt5 l size)) l p))), .iv (.map (keyR ((dst l).map (cdF (cnt5 l size)))) ((dst l).map (IV.int .i64)))], .obj (.miter (.iv (.map (keyR rk) (rk.map fun p => rankV (rwL (cdF (cnt5 l size)) l p)))) rk.length sn)], 0⟩)
    (fun sn => sn.Nodup ∧ ∀ j ∈ sn, j < rk.length) (fun sn => rk.length - sn.length) [] (wk_by [0, 1] ?_) ⟨List.nodup_nil, fun j hj => by simp at hj⟩ ?_
  · (simp (maxSteps := 1000000) (disch := first | exact dq | fail) only [go_sem])
    rfl
  rintro sn ⟨hnd, hsn⟩
  have hle := sum_le_of (f := fun j => (rwL (cdF (cnt5 l size)) l (rk.getD j [])).length) hnd hsn
  rw [hrl, hce] at hle
  by_cases hex : ∃ j, j < rk.length ∧ j ∉ sn
  · (repeat' first
  | ((with_reducible first | refine Nx.go ?_ | refine rP ?_ | refine rR ?_ | refine And.intro ?_ ?_ | fail) <;> try (simp (maxSteps := 1000000) (disch := first | exact dq | fail) only [go_sem]))
  | ((with_reducible refine Sp.go ?_ ?_) <;> intro h <;> (try (simp (maxSteps := 1000000) (disch := first | exact dq | fail) only [go_sem] at h)) <;> try (simp (maxSteps := 1000000) (disch := first | exact dq | fail) only [go_sem, h])) | fail)
    refine left_next 1 (.iv (.map (keyR rk) (rk.map fun p => rankV (rwL (cdF (cnt5 l size)) l p)))) rk.length sn (keyR rk) ((rk.map fun p => rankV (rwL (cdF (cnt5 l size)) l p)).map .iv) ?_ hex ?_
    · (simp (maxSteps := 1000000) (disch := first | exact dq | fail) only [go_sem, hkl])
      try exact ⟨rfl, rfl⟩
    intro i key v hi2 hni hkey hv
    have hpi : rk[i]? = some (rk.getD i []) := by rw [List.getD, List.getElem?_eq_getElem hi2]; rfl
    have hkey' := hkey
    have hv' := hv
    unfold keyR at hkey
    rw [List.getElem?_map, hpi] at hkey
    rw [List.getElem?_map, List.getElem?_map, hpi] at hv
    cases hkey; cases hv
    have hgl : (sn ++ [i]).getLast? = some i := by simp
    have hRi := hRL (rk.getD i [])
    have hsn2 : ∀ j ∈ sn ++ [i], j < rk.length := fun j hj => by
      rcases List.mem_append.1 hj with h3 | h3
      · exact hsn j h3
      · rw [List.mem_singleton.1 h3]; exact hi2
    have hnd2 : (sn ++ [i]).Nodup := by
      rw [List.nodup_append]
      exact ⟨hnd, by simp, fun a ha b hb e => hni (by rw [List.mem_singleton.1 hb] at e; rw [← e]; exact ha)⟩
    have hle2 := sum_le_of (f := fun j => (rwL (cdF (cnt5 l size)) l (rk.getD j [])).length) hnd2 hsn2
    rw [hrl, hce] at hle2
    have hsm : ((sn ++ [i]).map fun j => (rwL (cdF (cnt5 l size)) l (rk.getD j [])).length).sum = (sn.map fun j => (rwL (cdF (cnt5 l size)) l (rk.getD j [])).length).sum + (rwL (cdF (cnt5 l size)) l (rk.getD i [])).length := by
      rw [List.map_append, List.sum_append]; simp
    rw [hsm] at hle2
    generalize (sn.map fun j => (rwL (cdF (cnt5 l size)) l (rk.getD j [])).length).sum = S at *
    unfold strK at *
    (simp (maxSteps := 1000000) (disch := first | exact dq | fail) only [go_sem])
    (repeat' first
  | ((with_reducible first | refine Nx.go ?_ | refine rP ?_ | refine rR ?_ | refine And.intro ?_ ?_ | fail) <;> try (simp (maxSteps := 1000000) (disch := first | exact dq | fail) only [go_sem, hkl, hgl, hkey', hv']))
  | ((with_reducible refine Sp.go ?_ ?_) <;> intro h <;> (try (simp (maxSteps := 1000000) (disch := first | exact dq | fail) only [go_sem] at h)) <;> try (simp (maxSteps := 1000000) (disch := first | exact dq | fail) only [go_sem, h, hkl, hgl, hkey', hv'])) | fail)
    all_goals (try omega)
    ((with_reducible first | apply left_callf | apply leftD_callf | apply leftF_callf); (· with_reducible rfl); (· (simp (maxSteps := 1000000) (disch := first | exact dq | fail) only [go_sem]) <;> rfl); (· exact hRi); try (simp (maxSteps := 1000000) (disch := first | exact dq | fail) only [go_sem]))
    (repeat' first
  | ((with_reducible first | refine Nx.go ?_ | refine rP ?_ | refine rR ?_ | refine And.intro ?_ ?_ | fail) <;> try (simp (maxSteps := 1000000) (disch := first | exact dq | fail) only [go_sem]))
  | ((with_reducible refine Sp.go ?_ ?_) <;> intro h <;> (try (simp (maxSteps := 1000000) (disch := first | exact dq | fail) only [go_sem] at h)) <;> try (simp (maxSteps := 1000000) (disch := first | exact dq | fail) only [go_sem, h])) | fail)
    all_goals (try omega)
    refine ⟨sn ++ [i], ⟨hnd2, hsn2⟩, wk_by [0, 1] ?_, ?_⟩
    · (simp (maxSteps := 1000000) (disch := first | exact dq | fail) only [go_sem, hsm, Int.natCast_add])
    · have := nodup_len hnd hsn hi2 hni
      rw [List.length_append, List.length_singleton]; omega
  · have hall : ∀ j, j < rk.length → j ∈ sn := fun j hj => Classical.byContradiction fun g => hex ⟨j, hj, g⟩
    have hsum := sum_all_of (f := fun j => (rwL (cdF (cnt5 l size)) l (rk.getD j [])).length) hnd hsn hall
    rw [hrl, hce] at hsum
    (repeat' first
  | ((with_reducible first | refine Nx.go ?_ | refine rP ?_ | refine rR ?_ | refine And.intro ?_ ?_ | fail) <;> try (simp (maxSteps := 1000000) (disch := first | exact dq | fail) only [go_sem]))
  | ((with_reducible refine Sp.go ?_ ?_) <;> intro h <;> (try (simp (maxSteps := 1000000) (disch := first | exact dq | fail) only [go_sem] at h)) <;> try (simp (maxSteps := 1000000) (disch := first | exact dq | fail) only [go_sem, h])) | fail)
    refine left_nextE 1 (.iv (.map (keyR rk) (rk.map fun p => rankV (rwL (cdF (cnt5 l size)) l p)))) rk.length sn (keyR rk) ((rk.map fun p => rankV (rwL (cdF (cnt5 l size)) l p)).map .iv) ?_ hall ?_
    · (simp (maxSteps := 1000000) (disch := first | exact dq | fail) only [go_sem, hkl])
      try exact ⟨rfl, rfl⟩
    (simp (maxSteps := 1000000) (disch := first | exact dq | fail) only [go_sem])
    (repeat' first
  | ((with_reducible first | refine Nx.go ?_ | refine rP ?_ | refine rR ?_ | refine And.intro ?_ ?_ | fail) <;> try (simp (maxSteps := 1000000) (disch := first | exact dq | fail) only [go_sem]))
  | ((with_reducible refine Sp.go ?_ ?_) <;> intro h <;> (try (simp (maxSteps := 1000000) (disch := first | exact dq | fail) only [go_sem] at h)) <;> try (simp (maxSteps := 1000000) (disch := first | exact dq | fail) only [go_sem, h])) | fail)
    rw [hsum]
end Go.Proofs.YtpjncojljamacaaGreat.AM
