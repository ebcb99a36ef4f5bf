
/- Chapter 5: strings.Repeat and strings.LastIndexByte at digits; the number behind a code. Lengths that fit. -/
import Derived.Test.YtpjncojljamacaaGreatZE
import Derived.Test.YtpjncojljamacaaGreatXS
import Derived.Test.YtpjncojljamacaaGreatL
set_option linter.unusedVariables false
set_option linter.unusedSimpArgs false
set_option maxRecDepth 20000
namespace Go.Proofs.YtpjncojljamacaaGreat.AM
open Go Go.RowKit

def dg (b : Bool) : UInt8 := if b = true then 49 else 48
def cdB (l : List Bool) : List UInt8 := l.map dg
theorem cdB_len (l : List Bool) : (cdB l).length = l.length := by simp [cdB]
theorem cdB_app (a b : List Bool) : cdB (a ++ b) = cdB a ++ cdB b := by simp [cdB]
theorem dg_inj {a b : Bool} (h : dg a = dg b) : a = b := by revert h; cases a <;> cases b <;> decide
theorem cdB_inj : ∀ {a b : List Bool}, cdB a = cdB b → a = b
  | [], [], _ => rfl
  | [], _ :: _, h => by simp [cdB] at h
  | _ :: _, [], h => by simp [cdB] at h
  | x :: a, y :: b, h => by
    simp only [cdB, List.map_cons, List.cons.injEq] at h
    rw [dg_inj h.1, cdB_inj (a := a) (b := b) h.2]
theorem rep_one (x : UInt8) : ∀ c, Lib.repeatL [x] c = List.replicate c x
  | 0 => rfl
  | c + 1 => by rw [Lib.repeatL, rep_one x c, List.replicate_succ]; rfl
theorem cdB_zero (c : Nat) : cdB (List.replicate c false) = List.replicate c 48 := by simp [cdB, dg]
theorem Zeros_spec (c : Nat) (hc : c ≤ 1000000) : PCalls Tryz.prog 43 [.str (bs [48]), .int .i64 c] (.str (bs (cdB (List.replicate c false)))) := by
  refine ⟨by unfold Callable; kernel_rfl, fun w E vs hl hv hE => ?_⟩
  match vs, hl, hv with
  | [v0, v1], _, hv =>
    have r0 := hv 0 _ v0 rfl rfl
    have r1 := hv 1 _ v1 rfl rfl
    cases r0; cases r1
    refine (Go.Proofs.Tryz.strings_Repeat (bs [48]) c w (by omega) (by rw [bs_size]; simp; omega)).mono ?_
    rintro e w' ⟨rfl, hb⟩
    refine ⟨_, rfl, ?_, hb⟩
    rw [bs_data, rep_one, cdB_zero]
    exact .str _
def lst0 (l : List Bool) (n : Nat) : Int := match n with
  | 0 => -1
  | n + 1 => if l.getD n true = false then (n : Int) else lst0 l n
theorem dg_eq (b : Bool) : ((dg b).toNat : Int) = if b = true then 49 else 48 := by cases b <;> rfl
theorem LastIx_spec (l : List Bool) (hl : l.length ≤ 1000000) : PCalls Tryz.prog 84 [.str (bs (cdB l)), .int .u8 48] (.int .i64 (lst0 l l.length)) := by
  have hlen : (cdB l).length = l.length := cdB_len l
  refine PCalls.of_aw Tryz.func84 rfl (by unfold Callable; kernel_rfl) (by kernel_rfl) (by simp [Tryz.ntmps84]) ?_; rw [Tryz.ntmps84, Tryz.results84]; (simp (disch := first | exact dq | fail) only [go_sem])
  (repeat' first
  | ((with_reducible first | refine Nx.go ?_ | refine rP ?_ | refine rR ?_ | refine And.intro ?_ ?_ | fail) <;> try (simp (disch := first | exact dq | fail) only [go_sem, hlen]))
  | ((with_reducible refine Sp.go ?_ ?_) <;> intro h <;> (try (simp (disch := first | exact dq | fail) only [go_sem] at h)) <;> try (simp (disch := first | exact dq | fail) only [go_sem, h, hlen])) | fail)
  all_goals (try omega)
  refine aw_loop (α := Nat) (fun j => ⟨19, sl [(0, .iv (.str (bs (cdB l)))), (1, .iv (.int .u8 48)), (5, .iv (.int .i64 ((j : Int) - 1)))], [], 0⟩)
    (fun j => j ≤ l.length ∧ lst0 l j = lst0 l l.length) (fun j => j) l.length (wk_by [] ?_) ⟨Nat.le_refl _, rfl⟩ ?_
  · (simp (disch := first | exact dq | fail) only [go_sem])
  rintro j ⟨hj, he⟩
  cases j with
  | zero =>
    have c0 : ¬ ((-1 : Int) ≥ 0) := by omega
    have e0 : (((0 : Nat) : Int) - 1) = -1 := by omega
    rw [← he, e0]
    (repeat' first
  | ((with_reducible first | refine Nx.go ?_ | refine rP ?_ | refine rR ?_ | refine And.intro ?_ ?_ | fail) <;> try (simp (disch := first | exact dq | fail) only [go_sem, c0, decide_false]))
  | ((with_reducible refine Sp.go ?_ ?_) <;> intro h <;> (try (simp (disch := first | exact dq | fail) only [go_sem] at h)) <;> try (simp (disch := first | exact dq | fail) only [go_sem, h, c0, decide_false])) | fail)
    rfl
  | succ j =>
    have e0 : (((j + 1 : Nat) : Int) - 1) = (j : Int) := by omega
    have c0 : ((j : Int) ≥ 0) := by omega
    have hg : (cdB l).getD j 0 = dg (l.getD j true) := by
      unfold cdB
      simp [List.getD, List.getElem?_eq_getElem (show j < l.length by omega)]
    have hgi := dg_eq (l.getD j true)
    rw [e0]
    rw [lst0] at he
    cases hb : l.getD j true with
    | true =>
      rw [hb] at hg hgi he
      rw [if_pos rfl] at hgi
      rw [if_neg (by simp)] at he
      have c1 : ¬ ((49 : Int) = 48) := by omega
      (repeat' first
  | ((with_reducible first | refine Nx.go ?_ | refine rP ?_ | refine rR ?_ | refine And.intro ?_ ?_ | fail) <;> try (simp (disch := first | exact dq | fail) only [go_sem, hlen, c0, hg, hgi, c1, decide_true, decide_false]))
  | ((with_reducible refine Sp.go ?_ ?_) <;> intro h <;> (try (simp (disch := first | exact dq | fail) only [go_sem] at h)) <;> try (simp (disch := first | exact dq | fail) only [go_sem, h, hlen, c0, hg, hgi, c1, decide_true, decide_false])) | fail)
      all_goals (try omega)
      refine ⟨j, ⟨by omega, he⟩, wk_by [] ?_, by omega⟩
      (simp (disch := first | exact dq | fail) only [go_sem])
    | false =>
      rw [hb] at hg hgi he
      rw [if_neg (by simp)] at hgi
      rw [if_pos rfl] at he
      rw [← he]
      (repeat' first
  | ((with_reducible first | refine Nx.go ?_ | refine rP ?_ | refine rR ?_ | refine And.intro ?_ ?_ | fail) <;> try (simp (disch := first | exact dq | fail) only [go_sem, hlen, c0, hg, hgi, decide_true]))
  | ((with_reducible refine Sp.go ?_ ?_) <;> intro h <;> (try (simp (disch := first | exact dq | fail) only [go_sem] at h)) <;> try (simp (disch := first | exact dq | fail) only [go_sem, h, hlen, c0, hg, hgi, decide_true])) | fail)
      all_goals (try omega)
theorem lst0_all : ∀ (l : List Bool) (n : Nat), (∀ k, k < n → l.getD k true = true) → lst0 l n = -1
  | l, 0, _ => rfl
  | l, n + 1, h => by
    rw [lst0, h n (by omega), if_neg (by simp)]
    exact lst0_all l n (fun k hk => h k (by omega))
theorem lst0_at : ∀ (l : List Bool) (n i : Nat), i < n → l.getD i true = false → (∀ k, i < k → k < n → l.getD k true = true) → lst0 l n = i
  | l, n + 1, i, hi, h1, h2 => by
    rw [lst0]
    by_cases e : i = n
    · subst e; rw [h1, if_pos rfl]
    · rw [h2 n (by omega) (by omega), if_neg (by simp)]
      exact lst0_at l n i (by omega) h1 (fun k a b => h2 k a (by omega))
theorem nxB_all : ∀ (l : List Bool), l.all id = true → nxB l = List.replicate l.length false
  | [], _ => rfl
  | b :: l, h => by
    have hb : b = true ∧ l.all id = true := by simpa using h
    rw [nxB, if_pos hb.2, hb.1]; rfl
theorem nxB_at : ∀ (l : List Bool) (i : Nat), i < l.length → l.getD i true = false → (∀ k, i < k → k < l.length → l.getD k true = true) → nxB l = l.take i ++ true :: List.replicate (l.length - i - 1) false
  | b :: l, 0, hi, h1, h2 => by
    have hb : b = false := h1
    have ha : l.all id = true := List.all_eq_true.2 (fun x hx => by
      obtain ⟨k, hk, rfl⟩ := List.getElem_of_mem hx
      have := h2 (k + 1) (by omega) (by simpa using hk)
      simpa [List.getD, hk] using this)
    rw [nxB, if_pos ha, hb]; simp
  | b :: l, i + 1, hi, h1, h2 => by
    have hi' : i < l.length := by simpa using hi
    have h1' : l.getD i true = false := by simpa [List.getD] using h1
    have ha : ¬ l.all id = true := fun h => by
      rw [List.getD, List.getElem?_eq_getElem hi', Option.getD_some] at h1'
      have := List.all_eq_true.1 h _ (List.getElem_mem hi')
      rw [h1'] at this; simp at this
    rw [nxB, if_neg ha, nxB_at l i hi' h1' (fun k a b => by
      have := h2 (k + 1) (by omega) (by simp; omega)
      simpa [List.getD] using this)]
    simp only [List.take_succ_cons, List.length_cons, List.cons_append]
    congr 4
    omega
theorem ones_or (l : List Bool) : l.all id = true ∨ ∃ i, i < l.length ∧ l.getD i true = false ∧ ∀ k, i < k → k < l.length → l.getD k true = true := by
  have key : ∀ n, n ≤ l.length → (∀ k, n ≤ k → k < l.length → l.getD k true = true) → l.all id = true ∨ ∃ i, i < l.length ∧ l.getD i true = false ∧ ∀ k, i < k → k < l.length → l.getD k true = true := by
    intro n
    induction n with
    | zero =>
      intro _ h
      left
      refine List.all_eq_true.2 (fun x hx => ?_)
      obtain ⟨k, hk, rfl⟩ := List.getElem_of_mem hx
      have := h k (Nat.zero_le _) hk
      simpa [List.getD, hk] using this
    | succ n ih =>
      intro hn h
      by_cases hb : l.getD n true = true
      · exact ih (by omega) (fun k h1 h2 => by
          by_cases e : k = n
          · subst e; exact hb
          · exact h k (by omega) h2)
      · exact .inr ⟨n, by omega, by simpa using hb, fun k h1 h2 => h k (by omega) h2⟩
  exact key l.length (Nat.le_refl _) (fun k h1 h2 => absurd h2 (by omega))
theorem LastB_spec (l : List Bool) (hl : l.length ≤ 1000000) : PCalls Tryz.prog 66 [.str (bs (cdB l)), .int .u8 48] (.int .i64 (lst0 l l.length)) := by
  refine PCalls.of_aw Tryz.func66 rfl (by unfold Callable; kernel_rfl) (by kernel_rfl) (by simp [Tryz.ntmps66]) ?_; rw [Tryz.ntmps66, Tryz.results66]; (simp (disch := first | exact dq | fail) only [go_sem])
  (repeat' first
  | ((with_reducible first | refine Nx.go ?_ | refine rP ?_ | refine rR ?_ | refine And.intro ?_ ?_ | fail) <;> try (simp (disch := first | exact dq | fail) only [go_sem]))
  | ((with_reducible refine Sp.go ?_ ?_) <;> intro h <;> (try (simp (disch := first | exact dq | fail) only [go_sem] at h)) <;> try (simp (disch := first | exact dq | fail) only [go_sem, h])) | fail)
  ((with_reducible first | apply left_callf | apply leftD_callf | apply leftF_callf); (· with_reducible rfl); (· (simp (disch := first | exact dq | fail) only [go_sem]) <;> rfl); (· exact LastIx_spec l hl); try (simp (disch := first | exact dq | fail) only [go_sem]))
  (repeat' first
  | ((with_reducible first | refine Nx.go ?_ | refine rP ?_ | refine rR ?_ | refine And.intro ?_ ?_ | fail) <;> try (simp (disch := first | exact dq | fail) only [go_sem]))
  | ((with_reducible refine Sp.go ?_ ?_) <;> intro h <;> (try (simp (disch := first | exact dq | fail) only [go_sem] at h)) <;> try (simp (disch := first | exact dq | fail) only [go_sem, h])) | fail)
theorem cdB_take (l : List Bool) (i : Nat) : (cdB l).take i = cdB (l.take i) := by simp [cdB]
theorem nextC_spec (l : List Bool) (hl : l.length ≤ 100000) : PCalls Tryz.prog 42 [.str (bs (cdB l))] (.str (bs (cdB (nxB l)))) := by
  have hlen : (cdB l).length = l.length := cdB_len l
  have hL := LastB_spec l (by omega)
  rcases ones_or l with h | ⟨i, hi, h1, h2⟩
  · have e : lst0 l l.length = -1 := lst0_all l _ (fun k hk => by
      have := List.all_eq_true.1 h _ (List.getElem_mem hk)
      simpa [List.getD, hk] using this)
    rw [e] at hL
    rw [nxB_all l h]
    have hZ := Zeros_spec l.length (by omega)
    refine PCalls.of_aw Tryz.func42 rfl (by unfold Callable; kernel_rfl) (by kernel_rfl) (by simp [Tryz.ntmps42]) ?_; rw [Tryz.ntmps42, Tryz.results42]; (simp (disch := first | exact dq | fail) only [go_sem])
    (repeat' first
  | ((with_reducible first | refine Nx.go ?_ | refine rP ?_ | refine rR ?_ | refine And.intro ?_ ?_ | fail) <;> try (simp (disch := first | exact dq | fail) only [go_sem]))
  | ((with_reducible refine Sp.go ?_ ?_) <;> intro h <;> (try (simp (disch := first | exact dq | fail) only [go_sem] at h)) <;> try (simp (disch := first | exact dq | fail) only [go_sem, h])) | fail)
    ((with_reducible first | apply left_callf | apply leftD_callf | apply leftF_callf); (· with_reducible rfl); (· (simp (disch := first | exact dq | fail) only [go_sem]) <;> rfl); (· exact hL); try (simp (disch := first | exact dq | fail) only [go_sem]))
    (repeat' first
  | ((with_reducible first | refine Nx.go ?_ | refine rP ?_ | refine rR ?_ | refine And.intro ?_ ?_ | fail) <;> try (simp (disch := first | exact dq | fail) only [go_sem, hlen]))
  | ((with_reducible refine Sp.go ?_ ?_) <;> intro h <;> (try (simp (disch := first | exact dq | fail) only [go_sem] at h)) <;> try (simp (disch := first | exact dq | fail) only [go_sem, h, hlen])) | fail)
    ((with_reducible first | apply left_callf | apply leftD_callf | apply leftF_callf); (· with_reducible rfl); (· (simp (disch := first | exact dq | fail) only [go_sem]) <;> rfl); (· exact hZ); try (simp (disch := first | exact dq | fail) only [go_sem]))
    (repeat' first
  | ((with_reducible first | refine Nx.go ?_ | refine rP ?_ | refine rR ?_ | refine And.intro ?_ ?_ | fail) <;> try (simp (disch := first | exact dq | fail) only [go_sem]))
  | ((with_reducible refine Sp.go ?_ ?_) <;> intro h <;> (try (simp (disch := first | exact dq | fail) only [go_sem] at h)) <;> try (simp (disch := first | exact dq | fail) only [go_sem, h])) | fail)
  · have e := lst0_at l _ i hi h1 h2
    rw [e] at hL
    rw [nxB_at l i hi h1 h2]
    have hZ := Zeros_spec (l.length - i - 1) (by omega)
    have hZi : ((l.length - i - 1 : Nat) : Int) = (l.length : Int) - i - 1 := by omega
    rw [hZi] at hZ
    have c0 : ¬ ((i : Int) < 0) := by omega
    have hti : ((cdB l).take i).length = i := by rw [List.length_take]; omega
    have hrl : (cdB (List.replicate (l.length - i - 1) false)).length = l.length - i - 1 := by rw [cdB_len]; simp
    refine PCalls.of_aw Tryz.func42 rfl (by unfold Callable; kernel_rfl) (by kernel_rfl) (by simp [Tryz.ntmps42]) ?_; rw [Tryz.ntmps42, Tryz.results42]; (simp (disch := first | exact dq | fail) only [go_sem])
    (repeat' first
  | ((with_reducible first | refine Nx.go ?_ | refine rP ?_ | refine rR ?_ | refine And.intro ?_ ?_ | fail) <;> try (simp (disch := first | exact dq | fail) only [go_sem]))
  | ((with_reducible refine Sp.go ?_ ?_) <;> intro h <;> (try (simp (disch := first | exact dq | fail) only [go_sem] at h)) <;> try (simp (disch := first | exact dq | fail) only [go_sem, h])) | fail)
    ((with_reducible first | apply left_callf | apply leftD_callf | apply leftF_callf); (· with_reducible rfl); (· (simp (disch := first | exact dq | fail) only [go_sem]) <;> rfl); (· exact hL); try (simp (disch := first | exact dq | fail) only [go_sem]))
    (repeat' first
  | ((with_reducible first | refine Nx.go ?_ | refine rP ?_ | refine rR ?_ | refine And.intro ?_ ?_ | fail) <;> try (simp (disch := first | exact dq | fail) only [go_sem, hlen, c0, decide_false, hti]))
  | ((with_reducible refine Sp.go ?_ ?_) <;> intro h <;> (try (simp (disch := first | exact dq | fail) only [go_sem] at h)) <;> try (simp (disch := first | exact dq | fail) only [go_sem, h, hlen, c0, decide_false, hti])) | fail)
    all_goals (try omega)
    ((with_reducible first | apply left_callf | apply leftD_callf | apply leftF_callf); (· with_reducible rfl); (· (simp (disch := first | exact dq | fail) only [go_sem]) <;> rfl); (· exact hZ); try (simp (disch := first | exact dq | fail) only [go_sem]))
    (repeat' first
  | ((with_reducible first | refine Nx.go ?_ | refine rP ?_ | refine rR ?_ | refine And.intro ?_ ?_ | fail) <;> try (simp (disch := first | exact dq | fail) only [go_sem, hrl, hti]))
  | ((with_reducible refine Sp.go ?_ ?_) <;> intro h <;> (try (simp (disch := first | exact dq | fail) only [go_sem] at h)) <;> try (simp (disch := first | exact dq | fail) only [go_sem, h, hrl, hti])) | fail)
    all_goals (try omega)
    rw [cdB_app, cdB_take]; rfl
end Go.Proofs.YtpjncojljamacaaGreat.AM
