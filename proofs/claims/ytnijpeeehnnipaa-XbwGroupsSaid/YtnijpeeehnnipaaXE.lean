
/- Chapter 13's document: element. No condition but lengths that fit. -/
import Derived.Test.YtnijpeeehnnipaaXD
set_option linter.unusedVariables false
set_option linter.unusedSimpArgs false
set_option maxRecDepth 20000
namespace Go.Proofs.Ytnijpeeehnnipaa.AM
open Go Go.RowKit

def ownA : AV → AV
  | .nilsl => .msl 0 0 0 0
  | x => x
theorem MCalls.ofNil {P : Program} {f : Nat} {args : List AV} {T sz : Nat} {r : AV} {M' : List MO} (h : MCalls P f (args.map ownA) [.row true T sz []] r M') (hi : ∀ x ∈ args, x = .nilsl ∨ ∃ y, x = .iv y) : MCalls P f args [] r M' := by
  refine ⟨h.1, Nat.zero_le _, fun X w ρ vs hm hl ha => ?_⟩
  obtain ⟨h1, h2, h3⟩ := nilrow_ok hm T sz
  have hb : blocks [MO.row true T sz []] (updρ ρ 0 none) = blocks [] ρ := by
    funext b
    refine propext ⟨fun ⟨i, hi, e⟩ => ?_, fun ⟨i, hi, e⟩ => absurd hi (Nat.not_lt_zero _)⟩
    obtain rfl : i = 0 := by simpa using hi
    rw [updρ_same] at e; cases e
  have k := h.2.2 X w (updρ ρ 0 none) vs (by rw [hb]; exact h1) (by rw [List.length_map]; exact hl) (fun i x v hx hv => by
    rw [List.getElem?_map] at hx
    cases hx' : args[i]? with
    | none => rw [hx'] at hx; cases hx
    | some y =>
      rw [hx'] at hx
      have e : ownA y = x := by simpa using hx
      subst e
      have ra := ha i y v hx' hv
      rcases hi y (List.mem_of_getElem? hx') with rfl | ⟨z, rfl⟩
      · obtain ⟨A, rfl⟩ := inv_nilsl ra
        exact h3 _ A
      · exact ra.mono h2)
  refine k.mono (fun e w' ⟨v, ρ', q1, q2, q3, q4⟩ => ⟨v, ρ', q1, by rw [hb] at q2; exact q2, q3, fun x u hx => q4 x u (hx.mono h2)⟩)

theorem txtG_bd (l : List Tk) : ∀ f i s, i ≤ l.length → i ≤ (txtG l f i s).2 ∧ (txtG l f i s).2 ≤ l.length ∧ ((txtG l f i s).2 = i → (txtG l f i s).1 = s)
  | 0, i, s, h => ⟨Nat.le_refl _, h, fun _ => rfl⟩
  | f + 1, i, s, h => by
    rw [txtG]
    split
    · rename_i c
      obtain ⟨h1, h2, h3⟩ := txtG_bd l f (i + 1) (if (l.getD i tk0).kind = 6 then s ++ (l.getD i tk0).val else s) (by omega)
      exact ⟨by omega, h2, fun e => by omega⟩
    · exact ⟨Nat.le_refl _, h, fun _ => rfl⟩
theorem txtF_bd (l : List Tk) (i : Nat) (h : i ≤ l.length) : i ≤ (txtF l i).2 ∧ (txtF l i).2 ≤ l.length ∧ ((txtF l i).1 ≠ [] → i < (txtF l i).2) := by
  obtain ⟨h1, h2, h3⟩ := txtG_bd l l.length i [] h
  refine ⟨h1, h2, fun h4 => ?_⟩
  unfold txtF at *
  by_cases e : (txtG l l.length i []).2 = i
  · exact absurd (h3 e) h4
  · omega
theorem attG_bd (l : List Tk) (me : Nat) : ∀ f i ns, i ≤ l.length → ns.length ≤ i → i ≤ (attG l me f i ns).2.1 ∧ (attG l me f i ns).2.1 ≤ l.length ∧ (attG l me f i ns).1.length ≤ (attG l me f i ns).2.1
  | 0, i, ns, h, h2 => ⟨Nat.le_refl _, h, h2⟩
  | f + 1, i, ns, h, h2 => by
    rw [attG]
    split
    · rename_i c
      split
      · exact ⟨Nat.le_refl _, h, h2⟩
      · obtain ⟨q1, q2, q3⟩ := attG_bd l me f (i + 1) (ns ++ [⟨2, 0, me, (l.getD i tk0).val, (l.getD i tk0).name⟩]) (by omega) (by rw [List.length_append]; exact Nat.succ_le_succ h2)
        exact ⟨by omega, q2, q3⟩
    · exact ⟨Nat.le_refl _, h, h2⟩
def Bd (l : List Tk) (i : Nat) (r : List Nm × Nat × Bool) : Prop := i ≤ r.2.1 ∧ r.2.1 ≤ l.length ∧ r.1.length ≤ r.2.1 ∧ (r.2.2 = true → i < r.2.1)
theorem kidG_bd (l : List Tk) (rec : Nat → List Nm → List Nm × Nat × Bool) (hrec : ∀ i ns, i ≤ l.length → ns.length ≤ i → Bd l i (rec i ns)) (me : Nat) (name : Str) : ∀ f i ns, i ≤ l.length → ns.length ≤ i → Bd l i (kidG rec l me name f i ns)
  | 0, i, ns, h, h2 => ⟨Nat.le_refl _, h, h2, fun h => by cases h⟩
  | f + 1, i, ns, h, h2 => by
    rw [kidG]
    obtain ⟨t1, t2, t3⟩ := txtF_bd l i h
    have hn : (if (txtF l i).1 = [] then ns else ns ++ [⟨3, -1, me, (txtF l i).1, []⟩]).length ≤ (txtF l i).2 := by
      split
      · omega
      · rename_i c
        have := t3 c
        rw [List.length_append, List.length_singleton]; omega
    generalize (if (txtF l i).1 = [] then ns else ns ++ [⟨3, -1, me, (txtF l i).1, []⟩]) = n1 at *
    generalize (txtF l i).2 = j at *
    split
    · exact ⟨t1, t2, hn, fun h => by cases h⟩
    · split
      · exact ⟨by dsimp only; omega, by dsimp only; omega, by dsimp only; omega, fun _ => by dsimp only; omega⟩
      · obtain ⟨r1, r2, r3, r4⟩ := hrec j n1 t2 hn
        split
        · exact ⟨by dsimp only; omega, r2, r3, fun h => by cases h⟩
        · obtain ⟨q1, q2, q3, q4⟩ := kidG_bd l rec hrec me name f _ _ r2 r3
          exact ⟨by omega, q2, q3, fun h => by have := q4 h; omega⟩
theorem any_ge {m : List Nm} {a : Nat} {p : Nm → Bool} : (m.drop a).any p = true ↔ ∃ q, a ≤ q ∧ q < m.length ∧ p (m.getD q nm0) = true := by
  rw [List.any_eq_true]
  constructor
  · rintro ⟨x, hx, hp⟩
    obtain ⟨q, hq, rfl⟩ := List.getElem_of_mem hx
    rw [List.length_drop] at hq
    refine ⟨a + q, by omega, by omega, ?_⟩
    rw [List.getElem_drop] at hp
    simpa [List.getD, List.getElem?_eq_getElem (show a + q < m.length by omega)] using hp
  · rintro ⟨q, h1, h2, hp⟩
    refine ⟨m.getD q nm0, List.mem_of_getElem? (i := q - a) ?_, hp⟩
    rw [List.getElem?_drop, show a + (q - a) = q by omega]; exact getN h2
theorem elemG_bd (l : List Tk) : ∀ f i par ns, i ≤ l.length → ns.length ≤ i → Bd l i (elemG l f i par ns)
  | 0, i, par, ns, h, h2 => ⟨Nat.le_refl _, h, h2, fun h => by cases h⟩
  | f + 1, i, par, ns, h, h2 => by
    rw [elemG]
    split
    · exact ⟨Nat.le_refl _, h, h2, fun h => by cases h⟩
    · rename_i c
      obtain ⟨a1, a2, a3⟩ := attG_bd l ns.length l.length (i + 1) (ns ++ [⟨1, 0, par, [], (l.getD i tk0).name⟩]) (by omega) (by rw [List.length_append, List.length_singleton]; omega)
      dsimp only
      generalize attG l ns.length l.length (i + 1) (ns ++ [⟨1, 0, par, [], (l.getD i tk0).name⟩]) = a at *
      split
      · rename_i e
        exact ⟨by omega, a2, a3, fun h => by rw [h] at e; cases e⟩
      · split
        · exact ⟨by dsimp only; omega, a2, a3, fun h => by cases h⟩
        · split
          · exact ⟨by dsimp only; omega, by dsimp only; omega, by dsimp only; omega, fun h => by dsimp only; omega⟩
          · obtain ⟨q1, q2, q3, q4⟩ := kidG_bd l _ (fun i2 n2 h1 h2 => elemG_bd l f i2 ns.length n2 h1 h2) ns.length (l.getD i tk0).name (l.length + 1) (a.2.1 + 1) a.1 (by omega) (by omega)
            exact ⟨Nat.le_trans (by omega) q1, q2, q3, fun h => Nat.lt_of_le_of_lt (by omega) (q4 h)⟩
def nmRow (ns : List Nm) : MO := .row true 76 5 (ns.map nmV)
attribute [go_sem] nmRow
def elmPost (R : List Nm × Nat × Bool) : AV := .tup [.msl 0 0 R.1.length R.1.length, .iv (.int .i64 R.2.1), .iv (.bool R.2.2)]
@[go_sem] theorem zr_nmd : List.mapM constIVcell [Value.int IntKind.i64 0, Value.int IntKind.i64 0, Value.int IntKind.i64 0, Value.string (bs []), Value.string (bs [])] = some [.int .i64 0, .int .i64 0, .int .i64 0, .str (bs []), .str (bs [])] := rfl
set_option maxHeartbeats 8000000 in
theorem elem_spec (l : List Tk) (hl : Shrt l) : ∀ (f i : Nat) (par : Int) (ns : List Nm), f ≤ 3001 → i ≤ l.length → ns.length ≤ i → MCalls Try.prog 32
    [.iv (tksV l), .iv (.int .i64 i), .iv (.int .i64 par), .msl 0 0 ns.length ns.length, .iv (.int .i64 (3001 - f))] [nmRow ns] (elmPost (elemG l f i par ns)) [nmRow (elemG l f i par ns).1] := by
  obtain ⟨hl1, hl2⟩ := hl
  intro f
  induction f with
  | zero =>
    intro i par ns hf hi hn
    rw [elemG]
    unfold elmPost tksV
    refine MCalls.of_aw Try.func32 rfl (by unfold Callable; kernel_rfl) (by kernel_rfl) (by simp [Try.ntmps32]) (by (simp (maxSteps := 1000000) (disch := first | exact dq | fail) only [go_sem])) ?_; rw [Try.ntmps32, Try.results32]; (simp (maxSteps := 1000000) (disch := first | exact dq | fail) only [go_sem])
    have hd : ((3001 : Int) - ((0 : Nat) : Int) > 3000) = True := eq_true (by omega)
    by_cases g : i < l.length
    · have g1 : ((i : Int) ≥ l.length) = False := eq_false (by omega)
      have hg := getT g
      generalize l.getD i tk0 = t at *
      have ht : tkV t = .agg [.int .i64 t.kind, .int .i64 t.fr, .int .i64 t.to, .str (bs t.name), .str (bs t.val)] := rfl
      (repeat' first
  | ((with_reducible first | refine Nx.go ?_ | refine And.intro ?_ ?_ | fail) <;> try (simp (maxSteps := 1000000) (disch := first | exact dq | fail) only [go_sem, g1, hg, ht, hd, decide_true, decide_false, Bool.or_true]))
  | ((with_reducible refine Sp.go ?_ ?_) <;> intro h <;> (try (simp (maxSteps := 1000000) (disch := first | exact dq | fail) only [go_sem] at h)) <;> try (simp (maxSteps := 1000000) (disch := first | exact dq | fail) only [go_sem, h, g1, hg, ht, hd, decide_true, decide_false, Bool.or_true])) | fail)
      all_goals (try omega)
      all_goals
        refine fin_k [0] ?_
        (simp (maxSteps := 1000000) (disch := first | exact dq | fail) only [go_sem])
    · have g1 : ((i : Int) ≥ l.length) = True := eq_true (by omega)
      (repeat' (first | refine Nx.go ?_ | fail) <;> try (simp (maxSteps := 1000000) (disch := first | exact dq | fail) only [go_sem, g1, hd, decide_true, decide_false, Bool.or_true]))
      all_goals (try omega)
      all_goals
        refine fin_k [0] ?_
        (simp (maxSteps := 1000000) (disch := first | exact dq | fail) only [go_sem])
  | succ f ih =>
    intro i par ns hf hi hn
    rw [elemG]
    unfold elmPost tksV
    have hd : ((3001 : Int) - ((f + 1 : Nat) : Int) > 3000) = False := eq_false (by omega)
    by_cases c : l.length ≤ i ∨ (l.getD i tk0).kind ≠ 1
    · rw [if_pos c]
      refine MCalls.of_aw Try.func32 rfl (by unfold Callable; kernel_rfl) (by kernel_rfl) (by simp [Try.ntmps32]) (by (simp (maxSteps := 1000000) (disch := first | exact dq | fail) only [go_sem])) ?_; rw [Try.ntmps32, Try.results32]; (simp (maxSteps := 1000000) (disch := first | exact dq | fail) only [go_sem])
      by_cases g : i < l.length
      · have g1 : ((i : Int) ≥ l.length) = False := eq_false (by omega)
        have hg := getT g
        have hk : ((l.getD i tk0).kind ≠ 1) = True := eq_true (by rcases c with c | c; omega; exact c)
        clear c
        generalize l.getD i tk0 = t at *
        have ht : tkV t = .agg [.int .i64 t.kind, .int .i64 t.fr, .int .i64 t.to, .str (bs t.name), .str (bs t.val)] := rfl
        have hk2 : (t.kind = 1) = False := eq_false (of_eq_true hk)
        (repeat' (with_reducible first | refine Nx.go ?_ | refine And.intro ?_ ?_ | fail) <;> try (simp (maxSteps := 1000000) (disch := first | exact dq | fail) only [go_sem, g1, hg, ht, hk, hk2, decide_true, decide_false, Bool.or_true, Bool.true_or, Bool.not_false]))
        all_goals (try omega)
        all_goals
          refine fin_k [0] ?_
          (simp (maxSteps := 1000000) (disch := first | exact dq | fail) only [go_sem])
      · have g1 : ((i : Int) ≥ l.length) = True := eq_true (by omega)
        (repeat' (first | refine Nx.go ?_ | fail) <;> try (simp (maxSteps := 1000000) (disch := first | exact dq | fail) only [go_sem, g1, decide_true, decide_false, Bool.or_true]))
        all_goals (try omega)
        all_goals
          refine fin_k [0] ?_
          (simp (maxSteps := 1000000) (disch := first | exact dq | fail) only [go_sem])
    · rw [if_neg c]
      have g : i < l.length := Nat.lt_of_not_le fun h => c (.inl h)
      have g1 : ((i : Int) ≥ l.length) = False := eq_false (by omega)
      have hg := getT g
      have hk : ((l.getD i tk0).kind = 1) = True := eq_true (Classical.byContradiction fun h => c (.inr h))
      clear c
      generalize l.getD i tk0 = t at *
      have ht : tkV t = .agg [.int .i64 t.kind, .int .i64 t.fr, .int .i64 t.to, .str (bs t.name), .str (bs t.val)] := rfl
      dsimp only
      have hA0 : ∃ f2, l.length ≤ f2 + (i + 1) ∧ attG l ns.length f2 (i + 1) (ns ++ [⟨1, 0, par, [], t.name⟩]) = attG l ns.length l.length (i + 1) (ns ++ [⟨1, 0, par, [], t.name⟩]) := ⟨l.length, by omega, rfl⟩
      have hAb := attG_bd l ns.length l.length (i + 1) (ns ++ [⟨1, 0, par, [], t.name⟩]) (by omega) (by rw [List.length_append, List.length_singleton]; omega)
      generalize attG l ns.length l.length (i + 1) (ns ++ [⟨1, 0, par, [], t.name⟩]) = A at *
      generalize hR : (if A.2.2 = false then A else _) = R
      obtain ⟨d, hdd⟩ : ∃ d : Int, d = 3001 - ((f + 1 : Nat) : Int) := ⟨_, rfl⟩
      rw [← hdd] at hd ⊢
      have ihd : ∀ (i : Nat) (par : Int) (ns : List Nm), i ≤ l.length → ns.length ≤ i → MCalls Try.prog 32
          [.iv (tksV l), .iv (.int .i64 i), .iv (.int .i64 par), .msl 0 0 ns.length ns.length, .iv (.int .i64 (d + 1))] [nmRow ns] (elmPost (elemG l f i par ns)) [nmRow (elemG l f i par ns).1] := by
        intro i par ns h1 h2
        rw [show d + 1 = 3001 - (f : Int) by omega]
        exact ih i par ns (by omega) h1 h2
      have hdb : 0 ≤ d ∧ d ≤ 3000 := ⟨by omega, by have := of_eq_false hd; omega⟩
      clear hdd ih
      refine MCalls.of_aw Try.func32 rfl (by unfold Callable; kernel_rfl) (by kernel_rfl) (by simp [Try.ntmps32]) (by (simp (maxSteps := 1000000) (disch := first | exact dq | fail) only [go_sem])) ?_; rw [Try.ntmps32, Try.results32]; (simp (maxSteps := 1000000) (disch := first | exact dq | fail) only [go_sem])
      (repeat' (with_reducible first | refine Nx.go ?_ | refine And.intro ?_ ?_ | fail) <;> try (simp (maxSteps := 1000000) (disch := first | exact dq | fail) only [go_sem, g1, hg, ht, hk, hd, decide_true, decide_false, Bool.or_false, Bool.false_or, Bool.not_true]))
      all_goals (try omega)
      refine aw_postE (β := List Nm × Nat) (fun a => ⟨178, sl [(0, .iv (.sl 5 (l.map tkV))), (1, .iv (.int .i64 a.2)), (3, .msl 0 0 a.1.length a.1.length), (4, .iv (.int .i64 d)), (13, .iv (.int .i64 ns.length)), (14, .iv (.str (bs t.name)))], [nmRow a.1], 1⟩)
        (fun a => A = (a.1, a.2, true)) ?_ ?_
      · refine aw_loop (α := Nat × List Nm) (fun x => ⟨178, sl [(0, .iv (.sl 5 (l.map tkV))), (1, .iv (.int .i64 x.1)), (3, .msl 0 0 x.2.length x.2.length), (4, .iv (.int .i64 d)), (13, .iv (.int .i64 ns.length)), (14, .iv (.str (bs t.name)))], [nmRow x.2], 1⟩)
          (fun x => x.1 ≤ l.length ∧ x.2.length ≤ x.1 ∧ ns.length + 1 ≤ x.2.length ∧ ∃ f2, l.length ≤ f2 + x.1 ∧ attG l ns.length f2 x.1 x.2 = A) (fun x => l.length - x.1) (i + 1, ns ++ [⟨1, 0, par, [], t.name⟩]) (wk_by [0] ?_) ⟨by dsimp only; omega, ?_, ?_, hA0⟩ ?_
        · (simp (maxSteps := 1000000) (disch := first | exact dq | fail) only [go_sem, List.map_append])
          try rfl
        · dsimp only; rw [List.length_append, List.length_singleton]; omega
        · dsimp only; rw [List.length_append, List.length_singleton]; omega
        rintro ⟨j, m⟩ ⟨hj, hmj, hml, f2, hf2, he⟩
        dsimp only at hj hmj hml hf2 he
        by_cases gj : j < l.length
        · have gj1 : ((j : Int) < l.length) = True := eq_true (by omega)
          have hgj := getT gj
          obtain ⟨f3, rfl⟩ : ∃ f3, f2 = f3 + 1 := ⟨f2 - 1, by omega⟩
          rw [attG] at he
          generalize l.getD j tk0 = u at *
          have hu : tkV u = .agg [.int .i64 u.kind, .int .i64 u.fr, .int .i64 u.to, .str (bs u.name), .str (bs u.val)] := rfl
          by_cases k2 : u.kind = 2
          · rw [if_pos ⟨gj, k2⟩] at he
            have k2' := eq_true k2
            (repeat' (with_reducible first | refine Nx.go ?_ | refine And.intro ?_ ?_ | fail) <;> try (simp (maxSteps := 1000000) (disch := first | exact dq | fail) only [go_sem, gj1, hgj, hu, k2', decide_true]))
            all_goals (try omega)
            refine aw_postE (β := Unit) (fun _ => ⟨178, sl [(0, .iv (.sl 5 (l.map tkV))), (1, .iv (.int .i64 j)), (3, .msl 0 0 m.length m.length), (4, .iv (.int .i64 d)), (13, .iv (.int .i64 ns.length)), (14, .iv (.str (bs t.name)))], [nmRow m], 1⟩)
              (fun _ => ¬ ((m.drop (ns.length + 1)).any fun x => decide (x.name = u.name)) = true) ?_ ?_
            · refine aw_loop (α := Nat) (fun k => ⟨178, sl [(0, .iv (.sl 5 (l.map tkV))), (1, .iv (.int .i64 j)), (3, .msl 0 0 m.length m.length), (4, .iv (.int .i64 d)), (13, .iv (.int .i64 ns.length)), (14, .iv (.str (bs t.name))), (15, .iv (.int .i64 k))], [nmRow m], 1⟩)
                (fun k => k ≤ m.length ∧ ns.length + 1 ≤ k ∧ ∀ q, ns.length + 1 ≤ q → q < k → (m.getD q nm0).name ≠ u.name) (fun k => m.length - k) (ns.length + 1) (wk_by [0] ?_) ⟨by omega, by omega, fun q h1 h2 => by omega⟩ ?_
              · (simp (maxSteps := 1000000) (disch := first | exact dq | fail) only [go_sem])
                try rfl
              rintro k ⟨hk1, hk2, hk3⟩
              by_cases gk : k < m.length
              · have gk1 : ((k : Int) < m.length) = True := eq_true (by omega)
                have hgk := getN gk
                by_cases e : (m.getD k nm0).name = u.name
                · rw [if_pos (any_ge.2 ⟨k, hk2, gk, decide_eq_true e⟩)] at he
                  subst he
                  rw [if_pos rfl] at hR
                  subst hR
                  generalize m.getD k nm0 = y at *
                  have hy : nmV y = .agg [.int .i64 y.kind, .int .i64 y.num, .int .i64 y.par, .str (bs y.val), .str (bs y.name)] := rfl
                  have e' := eq_true e
                  (repeat' (with_reducible first | refine Nx.go ?_ | refine rP ?_ | refine And.intro ?_ ?_ | fail) <;> try (simp (maxSteps := 1000000) (disch := first | exact dq | fail) only [go_sem, gk1, hgk, hgj, hu, hy, e', decide_true]))
                  all_goals (try omega)
                  refine fin_k [0] ?_
                  (simp (maxSteps := 1000000) (disch := first | exact dq | fail) only [go_sem])
                · have nx : ∀ q, ns.length + 1 ≤ q → q < k + 1 → (m.getD q nm0).name ≠ u.name := fun q h1 h2 => by
                    by_cases eq : q = k
                    · subst eq; exact e
                    · exact hk3 q h1 (by omega)
                  generalize m.getD k nm0 = y at *
                  have hy : nmV y = .agg [.int .i64 y.kind, .int .i64 y.num, .int .i64 y.par, .str (bs y.val), .str (bs y.name)] := rfl
                  have e' := eq_false e
                  (repeat' (with_reducible first | refine Nx.go ?_ | refine rP ?_ | refine And.intro ?_ ?_ | fail) <;> try (simp (maxSteps := 1000000) (disch := first | exact dq | fail) only [go_sem, gk1, hgk, hgj, hu, hy, e', decide_true, decide_false]))
                  all_goals (try omega)
                  refine ⟨k + 1, ⟨by omega, by omega, nx⟩, wk_by [0] ?_, by omega⟩
                  (simp (maxSteps := 1000000) (disch := first | exact dq | fail) only [go_sem])
              · obtain rfl : k = m.length := by omega
                have gk1 : ((m.length : Int) < m.length) = False := eq_false (by omega)
                (repeat' (with_reducible first | refine Nx.go ?_ | refine And.intro ?_ ?_ | fail) <;> try (simp (maxSteps := 1000000) (disch := first | exact dq | fail) only [go_sem, gk1, decide_false]))
                all_goals (try omega)
                refine ⟨(), Bool.eq_false_iff.2 fun h => ?_, wk_by [0] ?_⟩
                · obtain ⟨q, q1, q2, q3⟩ := any_ge.1 h
                  exact hk3 q q1 q2 (of_decide_eq_true (p := (m.getD q nm0).name = u.name) q3)
                · (simp (maxSteps := 1000000) (disch := first | exact dq | fail) only [go_sem])
            · rintro _ hany
              rw [if_neg (by first | exact hany | (rw [hany]; exact Bool.false_ne_true))] at he
              (repeat' (with_reducible first | refine Nx.go ?_ | refine rP ?_ | refine And.intro ?_ ?_ | fail) <;> try (simp (maxSteps := 1000000) (disch := first | exact dq | fail) only [go_sem, hgj, hu]))
              all_goals (try omega)
              refine ⟨(j + 1, m ++ [⟨2, 0, ns.length, u.val, u.name⟩]), ⟨by dsimp only; omega, by dsimp only; rw [List.length_append, List.length_singleton]; omega, by dsimp only; rw [List.length_append, List.length_singleton]; omega, f3, by dsimp only; omega, he⟩, wk_by [0] ?_, by dsimp only; omega⟩
              (simp (maxSteps := 1000000) (disch := first | exact dq | fail) only [go_sem, List.map_append])
              try rfl
          · rw [if_neg (fun h => k2 h.2)] at he
            have k2' := eq_false k2
            (repeat' (with_reducible first | refine Nx.go ?_ | refine And.intro ?_ ?_ | fail) <;> try (simp (maxSteps := 1000000) (disch := first | exact dq | fail) only [go_sem, gj1, hgj, hu, k2', decide_true, decide_false]))
            all_goals (try omega)
            refine ⟨(m, j), he.symm, wk_by [0] ?_⟩
            (simp (maxSteps := 1000000) (disch := first | exact dq | fail) only [go_sem])
        · obtain rfl : j = l.length := by omega
          have gj1 : ((l.length : Int) < l.length) = False := eq_false (by omega)
          have he2 : (m, l.length, true) = A := by
            rw [← he]
            cases f2 with
            | zero => rfl
            | succ f3 => rw [attG, if_neg (fun h => absurd h.1 gj)]
          (repeat' (first | refine Nx.go ?_ | fail) <;> try (simp (maxSteps := 1000000) (disch := first | exact dq | fail) only [go_sem, gj1, decide_false]))
          all_goals (try omega)
          refine ⟨(m, l.length), he2.symm, wk_by [0] ?_⟩
          (simp (maxSteps := 1000000) (disch := first | exact dq | fail) only [go_sem])
      · rintro ⟨m, j⟩ hAe
        dsimp only at hAe
        clear hA0
        subst hAe
        rw [if_neg (fun h => by cases h)] at hR
        dsimp only at hR hAb
        by_cases gj : j < l.length
        · have gj1 : ((j : Int) ≥ l.length) = False := eq_false (by omega)
          have hgj := getT gj
          rw [if_neg (by omega)] at hR
          by_cases k4 : (l.getD j tk0).kind = 4
          · rw [if_pos k4] at hR
            subst hR
            generalize l.getD j tk0 = u at *
            have hu : tkV u = .agg [.int .i64 u.kind, .int .i64 u.fr, .int .i64 u.to, .str (bs u.name), .str (bs u.val)] := rfl
            have k4' := eq_true k4
            (repeat' (with_reducible first | refine Nx.go ?_ | refine And.intro ?_ ?_ | fail) <;> try (simp (maxSteps := 1000000) (disch := first | exact dq | fail) only [go_sem, gj1, hgj, hu, k4', decide_true, decide_false]))
            all_goals (try omega)
            refine fin_k [0] ?_
            (simp (maxSteps := 1000000) (disch := first | exact dq | fail) only [go_sem])
          · rw [if_neg k4] at hR
            generalize l.getD j tk0 = u at *
            have hu : tkV u = .agg [.int .i64 u.kind, .int .i64 u.fr, .int .i64 u.to, .str (bs u.name), .str (bs u.val)] := rfl
            have k4' := eq_false k4
            (repeat' (with_reducible first | refine Nx.go ?_ | refine And.intro ?_ ?_ | fail) <;> try (simp (maxSteps := 1000000) (disch := first | exact dq | fail) only [go_sem, gj1, hgj, hu, k4', decide_true, decide_false]))
            all_goals (try omega)
            refine aw_loop (α := Nat × List Nm) (fun x => ⟨178, sl [(0, .iv (.sl 5 (l.map tkV))), (1, .iv (.int .i64 x.1)), (3, .msl 0 0 x.2.length x.2.length), (4, .iv (.int .i64 d)), (13, .iv (.int .i64 ns.length)), (14, .iv (.str (bs t.name)))], [nmRow x.2], 1⟩)
              (fun x => x.1 ≤ l.length ∧ x.2.length ≤ x.1 ∧ ∃ f2, l.length < f2 + x.1 ∧ kidG (fun j m => elemG l f j ns.length m) l ns.length t.name f2 x.1 x.2 = R) (fun x => l.length - x.1) (j + 1, m) (wk_by [0] ?_) ⟨by dsimp only; omega, by dsimp only; omega, l.length + 1, by dsimp only; omega, hR⟩ ?_
            · (simp (maxSteps := 1000000) (disch := first | exact dq | fail) only [go_sem])
              try rfl
            clear hR
            rintro ⟨j2, m2⟩ ⟨hj2, hm2, f2, hf2, he⟩
            dsimp only at hj2 hm2 hf2 he
            clear gj1 hgj gj hg g1 hk k4 hu hAb
            obtain ⟨f3, rfl⟩ : ∃ f3, f2 = f3 + 1 := ⟨f2 - 1, by omega⟩
            rw [kidG] at he
            have hT := texts_spec l j2 ⟨hl1, hl2⟩ hj2
            have hTb := txtF_bd l j2 hj2
            unfold tksV stV at hT
            generalize txtF l j2 = T at *
            obtain ⟨s, k⟩ := T
            dsimp only at hT hTb he
            obtain ⟨k1, k2, k3⟩ := hTb
            (repeat' (first | refine Nx.go ?_ | fail) <;> try (simp (maxSteps := 1000000) (disch := first | exact dq | fail) only [go_sem]))
            all_goals (try omega)
            ((with_reducible first | apply left_callf | apply leftD_callf | apply leftF_callf); (· with_reducible rfl); (· (simp (maxSteps := 1000000) (disch := first | exact dq | fail) only [go_sem]) <;> rfl); (· exact hT); try (simp (maxSteps := 1000000) (disch := first | exact dq | fail) only [go_sem]))
            obtain ⟨m3, hm3⟩ : ∃ m3, m3 = if s = [] then m2 else m2 ++ [⟨3, -1, ns.length, s, []⟩] := ⟨_, rfl⟩
            rw [← hm3] at he
            have hm3l : m3.length ≤ k := by
              rw [hm3]
              split
              · omega
              · rename_i c
                have := k3 c
                rw [List.length_append, List.length_singleton]; omega
            refine aw_cut ⟨178, sl [(0, .iv (.sl 5 (l.map tkV))), (3, .msl 0 0 m3.length m3.length), (4, .iv (.int .i64 d)), (13, .iv (.int .i64 ns.length)), (14, .iv (.str (bs t.name))), (17, .iv (.int .i64 k))], [nmRow m3], 1⟩ ?_ ?_
            · by_cases c : s = []
              · rw [if_pos c] at hm3
                have c1 := eq_true c
                subst hm3
                (repeat' (first | refine Nx.go ?_ | fail) <;> try (simp (maxSteps := 1000000) (disch := first | exact dq | fail) only [go_sem, c1, decide_true, Bool.not_true]))
                all_goals (try omega)
                refine wk_by [0] ?_
                (simp (maxSteps := 1000000) (disch := first | exact dq | fail) only [go_sem])
              · rw [if_neg c] at hm3
                have c1 := eq_false c
                subst hm3
                (repeat' (with_reducible first | refine Nx.go ?_ | refine And.intro ?_ ?_ | fail) <;> try (simp (maxSteps := 1000000) (disch := first | exact dq | fail) only [go_sem, c1, decide_false, Bool.not_false]))
                all_goals (try omega)
                refine wk_by [0] ?_
                (simp (maxSteps := 1000000) (disch := first | exact dq | fail) only [go_sem, List.map_append])
                try rfl
            clear hm3 hT k3
            by_cases gk : k < l.length
            · have gk1 : ((k : Int) ≥ l.length) = False := eq_false (by omega)
              have hgk := getT gk
              rw [if_neg (by omega)] at he
              by_cases k5 : (l.getD k tk0).kind = 5
              · rw [if_pos k5] at he
                subst he
                generalize l.getD k tk0 = u at *
                have hu : tkV u = .agg [.int .i64 u.kind, .int .i64 u.fr, .int .i64 u.to, .str (bs u.name), .str (bs u.val)] := rfl
                have k5' := eq_true k5
                (repeat' (with_reducible first | refine Nx.go ?_ | refine rP ?_ | refine And.intro ?_ ?_ | fail) <;> try (simp (maxSteps := 1000000) (disch := first | exact dq | fail) only [go_sem, gk1, hgk, hu, k5', decide_true, decide_false]))
                all_goals (try omega)
                refine fin_k [0] ?_
                (simp (maxSteps := 1000000) (disch := first | exact dq | fail) only [go_sem])
              · rw [if_neg k5] at he
                generalize l.getD k tk0 = u at *
                have hu : tkV u = .agg [.int .i64 u.kind, .int .i64 u.fr, .int .i64 u.to, .str (bs u.name), .str (bs u.val)] := rfl
                have k5' := eq_false k5
                have hI := ihd k ns.length m3 k2 hm3l
                have hB := elemG_bd l f k ns.length m3 k2 hm3l
                generalize elemG l f k (ns.length : Int) m3 = E at *
                obtain ⟨m4, j4, ok⟩ := E
                obtain ⟨b1, b2, b3, b4⟩ := hB
                dsimp only at b1 b2 b3 b4 he
                unfold elmPost tksV at hI
                (repeat' (with_reducible first | refine Nx.go ?_ | refine And.intro ?_ ?_ | fail) <;> try (simp (maxSteps := 1000000) (disch := first | exact dq | fail) only [go_sem, gk1, hgk, hu, k5', decide_true, decide_false]))
                all_goals (try omega)
                ((first | with_reducible refine left_callMs [0] (hI) ?_ ?_ | with_reducible refine leftD_callMs [0] rfl (hI) ?_ ?_ | with_reducible refine leftD_callRs [0] (by decide) (hI) ?_ ?_); (· (simp (maxSteps := 1000000) (disch := first | exact dq | fail) only [go_sem])); try (simp (maxSteps := 1000000) (disch := first | exact dq | fail) only [go_sem]))
                cases ok with
                | false =>
                  rw [if_pos rfl] at he
                  subst he
                  (repeat' (first | refine Nx.go ?_ | fail) <;> try (simp (maxSteps := 1000000) (disch := first | exact dq | fail) only [go_sem]))
                  all_goals (try omega)
                  refine fin_k [0] ?_
                  (simp (maxSteps := 1000000) (disch := first | exact dq | fail) only [go_sem])
                | true =>
                  rw [if_neg (fun h => by cases h)] at he
                  have := b4 rfl
                  (repeat' (first | refine Nx.go ?_ | fail) <;> try (simp (maxSteps := 1000000) (disch := first | exact dq | fail) only [go_sem]))
                  all_goals (try omega)
                  refine ⟨(j4, m4), ⟨b2, b3, f3, by dsimp only; omega, he⟩, wk_by [0] ?_, by dsimp only; omega⟩
                  (simp (maxSteps := 1000000) (disch := first | exact dq | fail) only [go_sem])
            · obtain rfl : k = l.length := by omega
              have gk1 : ((l.length : Int) ≥ l.length) = True := eq_true (by omega)
              rw [if_pos (Nat.le_refl _)] at he
              subst he
              (repeat' (first | refine Nx.go ?_ | fail) <;> try (simp (maxSteps := 1000000) (disch := first | exact dq | fail) only [go_sem, gk1, decide_true]))
              all_goals (try omega)
              refine fin_k [0] ?_
              (simp (maxSteps := 1000000) (disch := first | exact dq | fail) only [go_sem])
        · obtain rfl : j = l.length := by omega
          have gj1 : ((l.length : Int) ≥ l.length) = True := eq_true (by omega)
          rw [if_pos (Nat.le_refl _)] at hR
          subst hR
          (repeat' (first | refine Nx.go ?_ | fail) <;> try (simp (maxSteps := 1000000) (disch := first | exact dq | fail) only [go_sem, gj1, decide_true]))
          all_goals (try omega)
          refine fin_k [0] ?_
          (simp (maxSteps := 1000000) (disch := first | exact dq | fail) only [go_sem])
end Go.Proofs.Ytnijpeeehnnipaa.AM
