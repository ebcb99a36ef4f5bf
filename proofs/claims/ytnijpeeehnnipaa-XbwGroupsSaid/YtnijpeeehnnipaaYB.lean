
/- A range over those around a node: the way up of the program. No condition but lengths that fit. -/
import Derived.RangeFuncBound
import Derived.RangeFuncCalls
import Derived.RangeFuncLeaves
import Derived.Shelf.Abstract
import Derived.Shelf.RegionOpen
import Derived.WalkKit
import Derived.OwnWalkIn
import Derived.TacticsInMore
import Derived.LoopNIn
import Derived.LoopIn
import Derived.Test.YtnijpeeehnnipaaYA
set_option linter.unusedVariables false
set_option linter.unusedSimpArgs false
set_option maxRecDepth 100000
namespace Go.Proofs.Ytnijpeeehnnipaa.AM
open Go Go.RowKit Go.Shelf

section
attribute [local go_sem] Oper.semAt_some
set_option maxHeartbeats 2000000 in
theorem around_in (F : Fence) (hF : ∀ f, F.fn f) (hro : F.round = none) (n : Nat) (l Bt Bi : Nat) (t : Tr) (i : Int) (v1 v2 : Value) (J : Nat → World → Prop) (hdp : F.depth = none)
    (hB : ∀ k W1 W2, J k W1 → Below W1.heap.size W1 W2 → J k W2)
    (hP : ∀ k W p, J k W → CallsIn F (n - 1) Try.prog 27 #[.agg #[v1, v2], .int .i64 p] W fun e W' => e = .returned (.int .i64 (parF t p)) ∧ Below W.heap.size W W')
    (hY : ∀ k W p, J k W → (ancT t i)[k]? = some p → YieldAt F (n - 1) Try.prog l #[.int .i64 p] W fun e W' => e = .returned (.bool true) ∧ J (k + 1) W')
    (ht : ∀ k W, J k W → W.cell? ⟨Bt, 0, none⟩ = some v1 ∧ W.cell? ⟨Bt, 1, none⟩ = some v2) (hi : ∀ k W, J k W → W.cell? ⟨Bi, 0, none⟩ = some (.int .i64 i))
    (W : World) (h0 : J 0 W) : CallsIn F n Try.prog 71 #[.func (.yield l) #[] #[], .pointer (some ⟨Bt, 0, none⟩), .pointer (some ⟨Bi, 0, none⟩)] W fun e W' => (∃ v, e = .returned v) ∧ J (ancT t i).length W' := by
  have hfn := hF 71
  refine callsIn_of_wp Try.func71 rfl hfn ?_ hro
  simp only [Try.ntmps71, List.size_toArray, List.length_cons, List.length_nil, Nat.reduceAdd, Nat.reduceSub, Array.replicate_succ, Array.replicate_zero, List.push_toArray, List.append_toArray, List.nil_append, List.cons_append]
  obtain ⟨ht1, ht2⟩ := ht 0 W h0
  have hi0 := hi 0 W h0
  have hp0 := hP 0 W i h0
  have hdd : F.depth.isSome = true → 1 ≤ n := by rw [hdp]; simp
  gi_wp2
  refine hp0.mono ?_
  rintro e W1 ⟨rfl, hb1⟩
  have h1 := hB 0 _ _ h0 hb1
  gi_wp2
  gi_loopw [4] (fun v wr => ∃ (k : Nat) (p : Int), v = .int .i64 p ∧ J k wr ∧ k ≤ (ancT t i).length ∧ (ancT t i).drop k = if p < 0 then [] else p :: ancT t p)
    (fun v _ => (intOf v + 1).toNat)
  case atStart => exact ⟨0, parF t i, rfl, h1, Nat.zero_le _, by rw [List.drop_zero, ← ancT_step]⟩
  case round =>
    obtain ⟨k, p, rfl, hJs, hk, hd⟩ := hrel
    by_cases hlt : p < 0
    · rw [if_pos hlt, List.drop_eq_nil_iff] at hd
      obtain rfl : k = (ancT t i).length := by omega
      have c1 : ¬ (p ≥ 0) := by omega
      gi_wp2
      go_end0
      exact ⟨⟨_, rfl⟩, hJs⟩
    · rw [if_neg hlt] at hd
      have c1 : p ≥ 0 := by omega
      have hkl : k < (ancT t i).length := by
        by_cases h : k < (ancT t i).length
        · exact h
        · rw [List.drop_eq_nil_iff.2 (by omega)] at hd; cases hd
      rw [List.drop_eq_getElem_cons hkl] at hd
      injection hd with hd1 hd2
      have hget : (ancT t i)[k]? = some p := by rw [List.getElem?_eq_getElem hkl, hd1]
      obtain ⟨fn, tmps, assign, body, hy, hR⟩ := hY k wr p hJs hget
      gi_wp2
      refine hR.mono ?_
      rintro e W3 ⟨rfl, hJ3⟩
      obtain ⟨ht3, ht4⟩ := ht _ W3 hJ3
      have hp3 := hP _ W3 p hJ3
      gi_wp2
      refine hp3.mono ?_
      rintro e W4 ⟨rfl, hb4⟩
      have hJ4 := hB _ _ _ hJ3 hb4
      gi_wp2
      go_roundw
      case rel => exact ⟨k + 1, parF t p, rfl, hJ4, hkl, by rw [hd2]; exact ancT_step t p⟩
      case measure => rcases parF_cases t p with h | h <;> simp [intOf] <;> omega
end

theorem sl_stay {E E' : Nat → Prop} {w w' : World} {sz : Nat} {xs : List IV} {v : Value} (h : RepI E w (.sl sz xs) v) (hz : 0 < sz) (hf : ∀ x ∈ xs, ∀ y ∈ x.cells, y.flat = true)
    (hst : ∀ b a T fz, ¬ E b → w.heap[b]? = some (.cells a T fz) → w'.heap[b]? = w.heap[b]?) (hE' : ∀ b, ¬ E' b) : RepI E' w' (.sl sz xs) v := by
  cases h with
  | sl0 sz A c => exact .sl0 sz A c
  | sl sz xs b o c u hc hE hb hs' hu hr =>
    by_cases h0 : xs = []
    · subst h0; exact .sl0 sz _ c
    · have hlt : 0 < xs.length := List.length_pos_iff.2 h0
      obtain ⟨ob, ho, hcc⟩ := cells_of_cell (hu 0 0 hlt hz)
      have hsame : w'.heap[b]? = w.heap[b]? := by
        cases ob with
        | cells a T fz => exact hst b a T fz hE ho
        | _ => cases hcc
      refine .sl sz xs b o c u hc (hE' b) (Array.getElem?_eq_some_iff.1 (hsame.trans ho)).1 hs' (fun i j hi hj => ?_) (fun i x j y hx hy => ?_)
      · rw [← hu i j hi hj]; exact World.cell?_of_block (w := w) hsame
      · exact flat_any (hr i x j y hx hy) (hf x (List.mem_of_getElem? hx) y (List.mem_of_getElem? hy))
theorem trV_flat (t : Tr) : (∀ x ∈ t.names.map (fun s => IV.str (bs s)), ∀ y ∈ x.cells, y.flat = true) ∧ (∀ x ∈ t.nodes.map ndV, ∀ y ∈ x.cells, y.flat = true) := by
  refine ⟨fun x hx y hy => ?_, fun x hx y hy => ?_⟩
  · obtain ⟨s, _, rfl⟩ := List.mem_map.1 hx
    simp only [IV.cells, List.mem_singleton] at hy
    subst hy; rfl
  · obtain ⟨n, _, rfl⟩ := List.mem_map.1 hx
    simp only [ndV, IV.cells, List.mem_cons, List.not_mem_nil, or_false] at hy
    rcases hy with rfl | rfl | rfl | rfl <;> rfl
def ysT (t : Tr) (i : Int) : List (List IV) := (ancT t i).map fun p => [IV.int .i64 p]
theorem around_iter {M : List MO} {k j : Nat} {l : List Nat} {t : Tr} {i : Int} (hM : M[k]? = some (.var 25 [.iv (.sl 1 (t.names.map fun s => IV.str (bs s))), .iv (.sl 4 (t.nodes.map ndV))])) (hj : M[j]? = some (.var 3 [.iv (.int .i64 i)]))
    (hkl : k ∉ l) (hjl : j ∉ l) (hlen : t.nodes.length ≤ 1000000) : Iter Try.prog 71 M [.mp k 0, .mp j 0] l (ysT t i) := by
  refine ⟨by unfold Callable; kernel_rfl, fun X O w0 w ρ vs hm hsz hv => ?_⟩
  obtain ⟨va, vb, rfl⟩ : ∃ va vb, vs = #[va, vb] := by
    obtain ⟨vs⟩ := vs
    match vs, hsz with
    | [va, vb], _ => exact ⟨va, vb, rfl⟩
  obtain ⟨Bt, hBt, rfl⟩ : ∃ Bt, ρ k = some Bt ∧ va = .pointer (some ⟨Bt, 0, none⟩) := by
    have := hv 0 _ va rfl rfl
    cases this with | mp _ _ T cs b h hb => exact ⟨b, hb, rfl⟩
  obtain ⟨Bi, hBi, rfl⟩ : ∃ Bi, ρ j = some Bi ∧ vb = .pointer (some ⟨Bi, 0, none⟩) := by
    have := hv 1 _ vb rfl rfl
    cases this with | mp _ _ T cs b h hb => exact ⟨b, hb, rfl⟩
  obtain ⟨b', arr, fz, g1, g2, g3, g4, g5⟩ := hm.obj k _ hM
  obtain rfl : b' = Bt := by rw [hBt] at g1; cases g1; rfl
  obtain ⟨b2, arr2, fz2, q1, q2, q3, q4, q5⟩ := hm.obj j _ hj
  obtain rfl : b2 = Bi := by rw [hBi] at q1; cases q1; rfl
  obtain ⟨u1, hu1⟩ : ∃ u, arr[0]? = some u := ⟨_, Array.getElem?_eq_getElem (by simp at g4; omega)⟩
  obtain ⟨u2, hu2⟩ : ∃ u, arr[1]? = some u := ⟨_, Array.getElem?_eq_getElem (by simp at g4; omega)⟩
  obtain ⟨u3, hu3⟩ : ∃ u, arr2[0]? = some u := ⟨_, Array.getElem?_eq_getElem (by simp at q4; omega)⟩
  have r1 := g5 0 _ u1 rfl hu1
  have r2 := g5 1 _ u2 rfl hu2
  have r3 := q5 0 _ u3 rfl hu3
  cases r1 with
  | iv _ _ r1 =>
  cases r2 with
  | iv _ _ r2 =>
  cases r3 with
  | iv _ _ r3 =>
  cases r3 with
  | int _ _ =>
  have cc : ∀ {b off : Nat} {a : Array Value} {T : TypeId} {fz : Nat × Nat} {u : Value}, w.heap[b]? = some (.cells a T fz) → a[off]? = some u → w.cell? ⟨b, off, none⟩ = some u := fun h1 h2 => by
    unfold World.cell?
    rw [h1]
    simp [h2]
  have hmine : ∀ (k1 b1 : Nat), k1 ∉ l → k1 < M.length → ρ k1 = some b1 → ∀ (k2 : Nat) (o : MO), k2 ∈ l → M[k2]? = some o → o.mut = true → ρ k2 ≠ some b1 := fun k1 b1 h0 h1 h2 k2 o h3 h4 _ h5 => by
    have := hm.inj k1 k2 b1 h1 (lt_of_get h4) h2 h5
    subst this; exact h0 h3
  refine ⟨(ancT t i).map (fun p => #[.int .i64 p]), fun b => (b = b' ∨ b = b2) ∨ (¬ excl X M ρ b ∧ ∃ a T fz, w.heap[b]? = some (.cells a T fz)), by simp [ysT], fun q y u h1 h2 => ?_, fun b hb => ?_, fun ly J W hJZ hB hY h0 => ?_⟩
  · unfold ysT at h1
    rw [List.getElem?_map] at h1 h2
    cases hp : (ancT t i)[q]? with
    | none => rw [hp] at h1; cases h1
    | some p =>
      rw [hp] at h1 h2
      simp only [Option.map_some, Option.some.injEq] at h1 h2
      subst h1 h2
      refine ⟨rfl, fun j x v hj hv => ?_⟩
      match j, hj, hv with
      | 0, hj, hv => simp at hj hv; subst hj hv; exact .int _ _
      | j + 1, hj, hv => simp at hj
  · rcases hb with (rfl | rfl) | ⟨h1, h2⟩
    · exact ⟨⟨_, _, _, g2⟩, hmine k _ hkl (lt_of_get hM) hBt⟩
    · exact ⟨⟨_, _, _, q2⟩, hmine j _ hjl (lt_of_get hj) hBi⟩
    · exact ⟨h2, fun k2 o h3 h4 h5 h6 => h1 (.inr ⟨k2, o, h4, h5, h6⟩)⟩
  · have hbk : ∀ (b : Nat) (a : Array Value) (T : TypeId) (fz : Nat × Nat), w.heap[b]? = some (.cells a T fz) → (¬ excl X M ρ b ∨ b = b' ∨ b = b2) → ∀ n W, J n W → W.heap[b]? = w.heap[b]? := fun b a T fz h1 h2 n W hJ => by
      refine hJZ n W hJ b ?_
      rcases h2 with h2 | h2
      · exact .inr ⟨h2, _, _, _, h1⟩
      · exact .inl h2
    have := around_in (fr none) (fun _ => trivial) rfl 0 ly b' b2 t i u1 u2 J rfl hB (fun n W p hJ => ?_) (fun n W p hJ hp => hY n _ W (by simp [hp]) hJ) (fun n W hJ => ?_) (fun n W hJ => ?_) W h0
    · simpa using this
    · refine callsIn_fr none 0 (((Parent15_spec t p hlen).2 W (fun _ => False) [.agg #[u1, u2], .int .i64 p] rfl ?_ (fun _ h => h.elim)).mono ?_)
      · intro q x v hq hv
        match q, hq, hv with
        | 0, hq, hv =>
          simp only [List.getElem?_cons_zero, Option.some.injEq] at hq hv
          subst hq hv
          refine .agg _ _ rfl (fun q2 y z h1 h2 => ?_)
          match q2, h1, h2 with
          | 0, h1, h2 =>
            simp at h1 h2; subst h1 h2
            exact sl_stay r1 (by decide) (trV_flat t).1 (fun b a T fz h3 h4 => hbk b a T fz h4 (.inl h3) n W hJ) (fun _ h => h)
          | 1, h1, h2 =>
            simp at h1 h2; subst h1 h2
            exact sl_stay r2 (by decide) (trV_flat t).2 (fun b a T fz h3 h4 => hbk b a T fz h4 (.inl h3) n W hJ) (fun _ h => h)
          | q2 + 2, h1, h2 => simp at h1
        | 1, hq, hv =>
          simp at hq hv; subst hq hv
          exact .int _ _
        | q + 2, hq, hv => simp at hq
      · rintro e W' ⟨v, rfl, hv, hbl⟩
        cases hv with
        | int _ _ => exact ⟨rfl, hbl⟩
    · exact ⟨(World.cell?_of_block (w := w) (hbk b' arr _ _ g2 (.inr (.inl rfl)) n W hJ)).trans (cc g2 hu1), (World.cell?_of_block (w := w) (hbk b' arr _ _ g2 (.inr (.inl rfl)) n W hJ)).trans (cc g2 hu2)⟩
    · exact (World.cell?_of_block (w := w) (hbk b2 arr2 _ _ q2 (.inr (.inr rfl)) n W hJ)).trans (cc q2 hu3)
theorem around_M (t : Tr) (i : Int) : MCalls Try.prog 53 [.iv (trV t), .iv (.int .i64 i)] [] (.fn 71 [.mp 0 0, .mp 1 0]) [.var 25 [.iv (.sl 1 (t.names.map fun s => IV.str (bs s))), .iv (.sl 4 (t.nodes.map ndV))], .var 3 [.iv (.int .i64 i)]] := by
  unfold trV
  refine MCalls.of_aw Try.func53 rfl (by unfold Callable; kernel_rfl) (by kernel_rfl) (by simp [Try.ntmps53]) (by (simp (disch := first | exact dq | fail) only [go_sem])) ?_; rw [Try.ntmps53, Try.results53]; (simp (disch := first | exact dq | fail) only [go_sem])
  (repeat' (first | refine Nx.go ?_ | fail) <;> try (simp (disch := first | exact dq | fail) only [go_sem]))
  all_goals (try omega)
  refine fin_k [0, 1] ?_
  (simp (disch := first | exact dq | fail) only [go_sem])
theorem Symbol15_spec (t : Tr) (i : Int) (hl : t.nodes.length ≤ 1000000) (hn : t.names.length ≤ 1000000) : PCalls Try.prog 28 [trV t, .int .i64 i] (.int .i64 (symF t i)) := by
  have hS := Symbols15_spec t hn
  unfold trV at *
  by_cases h : 0 ≤ i ∧ i < t.nodes.length
  · obtain ⟨k, rfl⟩ : ∃ k : Nat, i = k := ⟨i.toNat, by omega⟩
    have hk : k < t.nodes.length := by omega
    have hg := getNd hk
    have hp := symF_in hk
    have he := ndV_e (t.at k)
    have c1 : ((k : Int) < 0) = False := eq_false (by omega)
    have c2 : ((k : Int) ≥ t.nodes.length) = False := eq_false (by omega)
    rw [hp]
    generalize t.at k = x at *
    generalize hX : (if x.kind ≠ 1 ∧ x.kind ≠ 2 then (2 * t.names.length : Int) else _) = X
    have nm : ((x.name ≥ 0) = True ∧ (x.name < t.names.length) = True ∧ 0 ≤ x.name ∧ x.name < t.names.length) ∨ ((x.name ≥ 0) = True ∧ (x.name < t.names.length) = False ∧ ¬ (0 ≤ x.name ∧ x.name < t.names.length) ∧ bt [] 0 = 0) ∨ ((x.name ≥ 0) = False ∧ bt [] 0 = 0 ∧ ¬ (0 ≤ x.name ∧ x.name < t.names.length) ∧ bt [] 0 = 0) := by
      by_cases k1 : x.name ≥ 0
      · by_cases k2 : x.name < t.names.length
        · exact .inl ⟨eq_true k1, eq_true k2, k1, k2⟩
        · exact .inr (.inl ⟨eq_true k1, eq_false k2, by omega, rfl⟩)
      · exact .inr (.inr ⟨eq_false k1, rfl, by omega, rfl⟩)
    have kd : ((x.kind = 1) = True ∧ (x.kind = 2) = False) ∨ ((x.kind = 1) = False ∧ (x.kind = 2) = True) ∨ ((x.kind = 1) = False ∧ (x.kind = 2) = False) := by
      by_cases k1 : x.kind = 1
      · exact .inl ⟨eq_true k1, eq_false (by omega)⟩
      · by_cases k2 : x.kind = 2
        · exact .inr (.inl ⟨eq_false k1, eq_true k2⟩)
        · exact .inr (.inr ⟨eq_false k1, eq_false k2⟩)
    rcases nm with ⟨n1, n2, n3, n4⟩ | ⟨n1, n2, n3, n4⟩ | ⟨n1, n2, n3, n4⟩ <;> rcases kd with ⟨e1, e2⟩ | ⟨e1, e2⟩ | ⟨e1, e2⟩
    all_goals (
      simp only [ne_eq, e1, e2, not_true, not_false_eq_true, and_true, and_false, true_and, if_true, if_false, n3, n4, and_self] at hX
      subst hX
      refine PCalls.of_aw Try.func28 rfl (by unfold Callable; kernel_rfl) (by kernel_rfl) (by simp [Try.ntmps28]) ?_; rw [Try.ntmps28, Try.results28]; (simp (disch := first | exact dq | fail) only [go_sem])
      (repeat' (with_reducible first | refine Nx.go ?_ | refine And.intro ?_ ?_ | fail) <;> try (simp (disch := first | exact dq | fail) only [go_sem, c1, c2, hg, he, e1, e2, n1, n2, decide_true, decide_false, Bool.not_true, Bool.not_false]))
      all_goals (try omega)
      try (
        ((with_reducible first | apply left_callf | apply leftD_callf | apply leftF_callf); (· with_reducible rfl); (· (simp (disch := first | exact dq | fail) only [go_sem]) <;> rfl); (· exact hS); try (simp (disch := first | exact dq | fail) only [go_sem]))
        (repeat' (first | refine Nx.go ?_ | fail) <;> try (simp (disch := first | exact dq | fail) only [go_sem]))
        all_goals (try omega)
        try rw [Int.add_sub_cancel]))
  · rw [symF_out h]
    refine PCalls.of_aw Try.func28 rfl (by unfold Callable; kernel_rfl) (by kernel_rfl) (by simp [Try.ntmps28]) ?_; rw [Try.ntmps28, Try.results28]; (simp (disch := first | exact dq | fail) only [go_sem])
    by_cases c1 : i < 0
    · (repeat' (first | refine Nx.go ?_ | fail) <;> try (simp (disch := first | exact dq | fail) only [go_sem, eq_true c1, decide_true]))
      all_goals (try omega)
    · have c2 : i ≥ t.nodes.length := by omega
      (repeat' (first | refine Nx.go ?_ | fail) <;> try (simp (disch := first | exact dq | fail) only [go_sem, eq_false c1, eq_true c2, decide_true, decide_false]))
      all_goals (try omega)
theorem ysT_get {t : Tr} {i : Int} {q : Nat} {y : List IV} (h : (ysT t i)[q]? = some y) : ∃ p, (ancT t i)[q]? = some p ∧ y = [.int .i64 p] := by
  unfold ysT at h
  rw [List.getElem?_map] at h
  cases hp : (ancT t i)[q]? with
  | none => rw [hp] at h; cases h
  | some p => rw [hp] at h; exact ⟨p, rfl, by simpa using h.symm⟩
set_option maxHeartbeats 2000000 in
theorem Up15_spec (t : Tr) (i : Int) (hl : t.nodes.length ≤ 1000000) (hn : t.names.length ≤ 1000000) : PCalls Try.prog 38 [trV t, .int .i64 i] (inl (upT t i)) := by
  have hS := fun p => Symbol15_spec t p hl hn
  have hA := around_M t i
  have hU := upT_len t i
  have hUa := upT_anc t i
  have hyl : (ysT t i).length = (upT t i).length := by rw [hUa]; simp [ysT]
  unfold Tr.len at hU
  unfold trV at *
  refine PCalls.of_aw Try.func38 rfl (by unfold Callable; kernel_rfl) (by kernel_rfl) (by simp [Try.ntmps38]) ?_; rw [Try.ntmps38, Try.results38]; (simp (maxSteps := 1000000) (disch := first | exact dq | fail) only [go_sem])
  (repeat' (first | refine Nx.go ?_ | fail) <;> try (simp (maxSteps := 1000000) (disch := first | exact dq | fail) only [go_sem]))
  ((first | with_reducible refine left_callMs [] (hA) ?_ ?_ | with_reducible refine leftD_callMs [] rfl (hA) ?_ ?_ | with_reducible refine leftD_callRs [] (by decide) (hA) ?_ ?_); (· (simp (maxSteps := 1000000) (disch := first | exact dq | fail) only [go_sem])); try (simp (maxSteps := 1000000) (disch := first | exact dq | fail) only [go_sem]))
  (repeat' (first | refine Nx.go ?_ | fail) <;> try (simp (maxSteps := 1000000) (disch := first | exact dq | fail) only [go_sem]))
  refine aw_wk (wk_ownc 3 1 2 0 (T' := 28) (cs := [.nilsl]) rfl rfl) ?_
  refine aw_rangeFunc (gf := 71) (caps := [.mp 3 0, .mp 4 0]) (ysT t i) [0, 2, 5]
    (fun q => [.var 25 [.iv (.sl 1 (t.names.map fun s => IV.str (bs s))), .iv (.sl 4 (t.nodes.map ndV))], .var 28 [.msl 2 0 q q], .row true 3 1 (((upT t i).take q).map (IV.int .i64))])
    (sl [(2, .mp 0 0), (5, .mp 1 0)]) ?_ (around_iter rfl rfl (by decide) (by decide) hl) ?_ ?_ ?_ ?_ ?_ ?_ ?_ ?_
  · (simp (maxSteps := 1000000) (disch := first | exact dq | fail) only [go_sem])
  · exact Part.ofR rfl ⟨rfl, rfl, rfl, trivial⟩
  · intro q hq
    exact absurd hq (Nat.not_lt_zero _)
  · intro q
    by_cases e : q = 2 ∨ q = 5
    · rcases e with rfl | rfl <;> (right; rfl)
    · left; simp only [not_or] at e; simp [sl, upd, e]
  · intro o ho
    simp only [List.mem_cons, List.not_mem_nil, or_false] at ho
    rcases ho with rfl | rfl | rfl <;> rfl
  · intro p hp
    simp only [List.mem_cons, List.not_mem_nil, or_false] at hp
    subst hp
    show (10 : Nat) < 18; decide
  · intro y hy
    obtain ⟨q, hq, rfl⟩ := List.getElem_of_mem hy
    obtain ⟨p, _, e⟩ := ysT_get (List.getElem?_eq_getElem hq)
    rw [e]; rfl
  · intro q y hy
    obtain ⟨p, hp, rfl⟩ := ysT_get hy
    have hq : q < (upT t i).length := by rw [hUa, List.length_map]; exact lt_of_get hp
    have hg : (upT t i)[q]? = some (symF t p) := by rw [hUa, List.getElem?_map, hp]; rfl
    have hto : (upT t i).take (q + 1) = (upT t i).take q ++ [symF t p] := by rw [List.take_add_one, hg]; rfl
    have htl : ((upT t i).take q).length = q := by rw [List.length_take]; omega
    generalize (upT t i).take q = out at *
    simp only [List.zip_cons_cons, List.zip_nil_right, setp, List.foldl]
    (repeat' (with_reducible first | refine Nx.go ?_ | (refine aw_regionD cwF mixed ?_ (dops_runF ?_); (· kernel_rfl)) | fail) <;> try (simp (maxSteps := 1000000) (disch := first | exact dq | fail) only [go_sem]))
    ((with_reducible first | apply left_callf | apply leftD_callf | apply leftF_callf); (· with_reducible rfl); (· (simp (maxSteps := 1000000) (disch := first | exact dq | fail) only [go_sem]) <;> rfl); (· exact hS p); try (simp (maxSteps := 1000000) (disch := first | exact dq | fail) only [go_sem]))
    (repeat' (with_reducible first | refine Nx.go ?_ | refine And.intro ?_ ?_ | fail) <;> try (simp (maxSteps := 1000000) (disch := first | exact dq | fail) only [go_sem, htl]))
    all_goals (try omega)
    refine (show Wk _ ⟨18, sl [], _, 3⟩ from wk_by [0, 1, 2] ?_)
    (simp (maxSteps := 1000000) (disch := first | exact dq | fail) only [go_sem, hto, List.map_append])
  · have htl : ((upT t i).take (ysT t i).length).length = (upT t i).length := by rw [hyl, List.take_length]
    (simp (maxSteps := 1000000) (disch := first | exact dq | fail) only [go_sem, hyl, List.take_length])
    (repeat' (first | refine Nx.go ?_ | fail) <;> try (simp (maxSteps := 1000000) (disch := first | exact dq | fail) only [go_sem]))
    all_goals (try omega)
end Go.Proofs.Ytnijpeeehnnipaa.AM
