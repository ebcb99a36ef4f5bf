
/- Chapter 12's document: Lex. No condition but lengths that fit. -/
import Derived.Test.YtnijpeeehnnipaaX8
set_option linter.unusedVariables false
set_option linter.unusedSimpArgs false
set_option maxRecDepth 20000
namespace Go.Proofs.Ytnijpeeehnnipaa.AM
open Go Go.RowKit

def Ends (l : List Tk) (n : Nat) : Prop := ∃ (l' : List Tk) (t : Tk), l = l' ++ [t] ∧ t.to = n
theorem Ends.last {l : List Tk} {n : Nat} (h : Ends l n) : lastTo l = n := by
  obtain ⟨l', t, rfl, h⟩ := h
  rw [lastTo_snoc, h, Int.toNat_natCast]
theorem Ends.one (k f : Int) (n : Nat) (a b : Str) : Ends [⟨k, f, n, a, b⟩] n := ⟨[], _, rfl, rfl⟩
theorem tagG_ends (s : Str) : ∀ f last out, last ≤ s.length → (tagG s f last out).2 = true → ∃ n, Ends (tagG s f last out).1 n ∧ last < n ∧ n ≤ s.length
  | 0, last, out, h, h2 => by cases h2
  | f + 1, last, out, h, h2 => by
    have l1 := skipF_le s h
    rw [tagG] at h2 ⊢
    cases b1 : bgnF s (skipF s last) [62] with
    | true =>
      have := one_le b1
      rw [if_pos rfl]
      exact ⟨skipF s last + 1, ⟨out, _, rfl, rfl⟩, by omega, by omega⟩
    | false =>
      rw [b1, if_neg (by decide)] at h2
      rw [if_neg (by decide)]
      cases b2 : bgnF s (skipF s last) [47, 62] with
      | true =>
        have : skipF s last + 2 ≤ s.length := bgnF_le b2
        rw [if_pos rfl]
        exact ⟨skipF s last + 2, ⟨out, _, rfl, rfl⟩, by omega, by omega⟩
      | false =>
        rw [b2, if_neg (by decide)] at h2
        rw [if_neg (by decide)]
        cases h3 : (attrF s last).2 with
        | false => rw [h3, if_pos rfl] at h2; cases h2
        | true =>
          rw [h3, if_neg (by decide)] at h2
          rw [if_neg (by decide)]
          obtain ⟨to, e1, e2, e3⟩ := attrF_to h h3
          rw [e1, Int.toNat_natCast] at h2 ⊢
          obtain ⟨n, q1, q2, q3⟩ := tagG_ends s f to _ e3 h2
          exact ⟨n, q1, by omega, q3⟩
theorem tagG_len (s : Str) : ∀ f last out, (tagG s f last out).1.length ≤ out.length + f
  | 0, last, out => by simp [tagG]
  | f + 1, last, out => by
    rw [tagG]
    split
    · simp
    · split
      · simp
      · split
        · simp
        · have := tagG_len s f (attrF s last).1.to.toNat (out ++ [(attrF s last).1])
          rw [List.length_append, List.length_singleton] at this
          omega
theorem pieceF_len (s : Str) (a : Nat) : (pieceF s a).1.length ≤ s.length + 3 := by
  unfold pieceF
  split
  · split <;> simp
  · split
    · split <;> simp
    · split
      · split <;> simp
      · split
        · unfold tagF
          split
          · simp
          · have := tagG_len s (s.length + 1) (nameF s (a + 1)) [⟨1, a, nameF s (a + 1), sub s (a + 1) (nameF s (a + 1)), []⟩]
            rw [List.length_singleton] at this
            omega
        · simp
theorem pieceF_ends {s : Str} {a : Nat} (ha : a < s.length) (h : (pieceF s a).2 = true) : ∃ n, Ends (pieceF s a).1 n ∧ a < n ∧ n ≤ s.length := by
  unfold pieceF at h ⊢
  cases h1 : bgnF s a tC with
  | true =>
    rw [h1, if_pos rfl] at h
    rw [if_pos rfl]
    have cf := findF_cases s [45, 45] (a + 4)
    generalize findF s (a + 4) [45, 45] = F at *
    by_cases c : F < 0 ∨ bgnF s F.toNat [45, 45, 62] = false
    · rw [if_pos c] at h; cases h
    rw [if_neg c]
    have hb : bgnF s F.toNat [45, 45, 62] = true := by
      cases hx : bgnF s F.toNat [45, 45, 62] with
      | true => rfl
      | false => exact absurd (.inr hx) c
    have : F.toNat + 3 ≤ s.length := bgnF_le hb
    have hF : 0 ≤ F := by
      by_cases h0 : F < 0
      · exact absurd (.inl h0) c
      · omega
    have := cf.resolve_left (by omega)
    refine ⟨F.toNat + 3, ⟨[], _, rfl, ?_⟩, by omega, by omega⟩
    show F + 3 = ((F.toNat + 3 : Nat) : Int)
    omega
  | false =>
    rw [h1, if_neg (by decide)] at h
    rw [if_neg (by decide)]
    cases h2 : bgnF s a tCD with
    | true =>
      rw [h2, if_pos rfl] at h
      rw [if_pos rfl]
      have cf := findF_cases s [93, 93, 62] (a + 9)
      generalize findF s (a + 9) [93, 93, 62] = F at *
      by_cases c : F < 0
      · rw [if_pos c] at h; cases h
      rw [if_neg c]
      have := cf.resolve_left (by omega)
      have hl : ([93, 93, 62] : Str).length = 3 := rfl
      rw [hl] at this
      refine ⟨F.toNat + 3, ⟨[], _, rfl, ?_⟩, by omega, by omega⟩
      show F + 3 = ((F.toNat + 3 : Nat) : Int)
      omega
    | false =>
      rw [h2, if_neg (by decide)] at h
      rw [if_neg (by decide)]
      cases h3 : bgnF s a [60, 47] with
      | true =>
        have l1 : a + 2 ≤ s.length := bgnF_le h3
        rw [h3, if_pos rfl] at h
        rw [if_pos rfl]
        have l2 := nameF_le s l1
        have l3 := skipF_le s (show nameF s (a + 2) ≤ s.length by omega)
        by_cases c : nameF s (a + 2) = a + 2 ∨ bgnF s (skipF s (nameF s (a + 2))) [62] = false
        · rw [if_pos c] at h; cases h
        rw [if_neg c]
        have hb : bgnF s (skipF s (nameF s (a + 2))) [62] = true := by
          cases hx : bgnF s (skipF s (nameF s (a + 2))) [62] with
          | true => rfl
          | false => exact absurd (.inr hx) c
        have := one_le hb
        exact ⟨_, Ends.one _ _ (skipF s (nameF s (a + 2)) + 1) _ _, by omega, by omega⟩
      | false =>
        rw [h3, if_neg (by decide)] at h
        rw [if_neg (by decide)]
        cases h4 : bgnF s a [60] with
        | true =>
          have l1 : a + 1 ≤ s.length := bgnF_le h4
          have l2 := nameF_le s l1
          rw [h4, if_pos rfl] at h
          rw [if_pos rfl]
          unfold tagF at h ⊢
          by_cases c : nameF s (a + 1) = a + 1
          · rw [if_pos c] at h; cases h
          rw [if_neg c] at h ⊢
          obtain ⟨n, q1, q2, q3⟩ := tagG_ends s _ _ _ l2.2 h
          exact ⟨n, q1, by omega, q3⟩
        | false =>
          rw [if_neg (by decide)]
          dsimp only
          have cf := findF_cases s [60] a
          generalize findF s a [60] = F at *
          by_cases c : F < 0
          · rw [if_pos c]
            exact ⟨s.length, Ends.one _ _ _ _ _, ha, Nat.le_refl _⟩
          · rw [if_neg c]
            have cf := cf.resolve_left (by omega)
            have hl : ([60] : Str).length = 1 := rfl
            rw [hl] at cf
            refine ⟨F.toNat, Ends.one _ _ _ _ _, ?_, by omega⟩
            by_cases e : F.toNat = a
            · exfalso
              have : bgnF s a [60] = true := by
                unfold bgnF
                rw [Bool.and_eq_true, decide_eq_true_eq, decide_eq_true_eq, hl]
                refine ⟨by omega, ?_⟩
                rw [← e]; exact cf.2.2
              rw [h4] at this; cases this
            · omega
theorem lexG_more (s : Str) : ∀ f a out, s.length ≤ f + a → lexG s f a out = lexG s (f + 1) a out
  | 0, a, out, h => by rw [lexG, lexG, if_neg (by omega)]
  | f + 1, a, out, h => by
    rw [lexG]
    conv => rhs; rw [lexG]
    by_cases h1 : a < s.length
    · rw [if_pos h1, if_pos h1]
      by_cases c : (pieceF s a).2 = false ∨ (pieceF s a).1 = []
      · rw [if_pos c, if_pos c]
      · rw [if_neg c, if_neg c]
        have h2 : (pieceF s a).2 = true := by
          cases hx : (pieceF s a).2 with
          | true => rfl
          | false => exact absurd (.inl hx) c
        obtain ⟨n, q1, q2, q3⟩ := pieceF_ends h1 h2
        rw [q1.last]
        exact lexG_more s f n _ (by omega)
    · rw [if_neg h1, if_neg h1]
theorem lexG_any (s : Str) {f a : Nat} {out : List Tk} (h : s.length ≤ f + a) : ∀ d, lexG s (f + d) a out = lexG s f a out
  | 0 => rfl
  | d + 1 => by rw [← Nat.add_assoc, ← lexG_more s (f + d) a out (by omega)]; exact lexG_any s h d
theorem get_last {l' : List Tk} {t : Tk} : (l' ++ [t])[(l' ++ [t]).length - 1]? = some t := by
  rw [List.length_append, List.length_singleton, Nat.add_sub_cancel, List.getElem?_append_right (Nat.le_refl _), Nat.sub_self]; rfl
set_option maxHeartbeats 2000000 in
theorem Lex_spec (s : Str) (hs : s.length ≤ 1000000) : PCalls Try.prog 29 [stV s] (.tup [tksV (lexF s).1, .int .i64 (lexF s).2]) := by
  have hv := Valid_spec s hs
  unfold lexF
  by_cases c1 : 65536 < s.length
  · have c1' : (s.length : Int) > 65536 := by omega
    rw [if_pos c1]
    unfold stV tksV at *
    refine PCalls.of_aw Try.func29 rfl (by unfold Callable; kernel_rfl) (by kernel_rfl) (by simp [Try.ntmps29]) ?_; rw [Try.ntmps29, Try.results29]; (simp (maxSteps := 1000000) (disch := first | exact dq | fail) only [go_sem])
    (repeat' (first | refine Nx.go ?_ | fail) <;> try (simp (maxSteps := 1000000) (disch := first | exact dq | fail) only [go_sem, c1', decide_true]))
    all_goals (try omega)
  have c1' : ¬ (s.length : Int) > 65536 := by omega
  rw [if_neg c1]
  cases hb : validF s with
  | false =>
    rw [hb] at hv
    rw [if_pos rfl]
    unfold stV tksV at *
    refine PCalls.of_aw Try.func29 rfl (by unfold Callable; kernel_rfl) (by kernel_rfl) (by simp [Try.ntmps29]) ?_; rw [Try.ntmps29, Try.results29]; (simp (maxSteps := 1000000) (disch := first | exact dq | fail) only [go_sem])
    (repeat' (first | refine Nx.go ?_ | fail) <;> try (simp (maxSteps := 1000000) (disch := first | exact dq | fail) only [go_sem, c1', decide_false]))
    all_goals (try omega)
    ((with_reducible first | apply left_callf | apply leftD_callf | apply leftF_callf); (· with_reducible rfl); (· (simp (maxSteps := 1000000) (disch := first | exact dq | fail) only [go_sem]) <;> rfl); (· exact hv); try (simp (maxSteps := 1000000) (disch := first | exact dq | fail) only [go_sem]))
    (repeat' (first | refine Nx.go ?_ | fail) <;> try (simp (maxSteps := 1000000) (disch := first | exact dq | fail) only [go_sem]))
  | true =>
    rw [hb] at hv
    rw [if_neg (by decide)]
    unfold stV tksV at *
    generalize hT : lexG s s.length 0 [] = T
    refine PCalls.of_aw Try.func29 rfl (by unfold Callable; kernel_rfl) (by kernel_rfl) (by simp [Try.ntmps29]) ?_; rw [Try.ntmps29, Try.results29]; (simp (maxSteps := 1000000) (disch := first | exact dq | fail) only [go_sem])
    (repeat' (first | refine Nx.go ?_ | fail) <;> try (simp (maxSteps := 1000000) (disch := first | exact dq | fail) only [go_sem, c1', decide_false]))
    all_goals (try omega)
    ((with_reducible first | apply left_callf | apply leftD_callf | apply leftF_callf); (· with_reducible rfl); (· (simp (maxSteps := 1000000) (disch := first | exact dq | fail) only [go_sem]) <;> rfl); (· exact hv); try (simp (maxSteps := 1000000) (disch := first | exact dq | fail) only [go_sem]))
    (repeat' (first | refine Nx.go ?_ | fail) <;> try (simp (maxSteps := 1000000) (disch := first | exact dq | fail) only [go_sem]))
    refine aw_loop (α := Nat × List Tk) (fun x => ⟨44, sl [(0, .iv (.str (bs s))), (5, .msl 0 0 x.2.length x.2.length), (6, .iv (.int .i64 x.1))], [.row true 73 5 (x.2.map tkV)], 0⟩)
      (fun x => x.1 ≤ s.length ∧ x.2.length ≤ (s.length + 3) * x.1 ∧ lexG s (s.length - x.1) x.1 x.2 = T) (fun x => s.length - x.1) (0, []) (wk_by [1] ?_) ⟨by dsimp only; omega, by simp, hT⟩ ?_
    · (simp (maxSteps := 1000000) (disch := first | exact dq | fail) only [go_sem])
      try exact ⟨rfl, rfl⟩
    rintro ⟨a, out⟩ ⟨ha, hol, he⟩
    dsimp only at ha hol he
    have hb1 : (s.length + 3) * a ≤ 65539 * 65536 := Nat.mul_le_mul (by omega) (by omega)
    rw [← he]
    clear hT
    by_cases g : a < s.length
    · have g1 : (a : Int) < s.length := by omega
      have hp := piece_spec s a hs ha
      have hpl := pieceF_len s a
      have hpe := pieceF_ends g
      obtain ⟨f, hf⟩ : ∃ f, s.length - a = f + 1 := ⟨s.length - a - 1, by omega⟩
      rw [hf, lexG, if_pos g]
      have hmore : ∀ n u, a < n → n ≤ s.length → lexG s (s.length - n) n u = lexG s f n u := by
        intro j u hj1 hj2
        obtain ⟨d, hd⟩ : ∃ d, f = (s.length - j) + d := ⟨f - (s.length - j), by omega⟩
        rw [hd, lexG_any s (by omega)]
      unfold stV tksV at hp
      generalize (pieceF s a).1 = l at *
      cases hok : (pieceF s a).2 with
      | false =>
        rw [hok] at hp
        rw [if_pos (.inl rfl)]
        (repeat' (first | refine Nx.go ?_ | fail) <;> try (simp (maxSteps := 1000000) (disch := first | exact dq | fail) only [go_sem, g1, decide_true]))
        all_goals (try omega)
        ((with_reducible first | apply left_callf | apply leftD_callf | apply leftF_callf); (· with_reducible rfl); (· (simp (maxSteps := 1000000) (disch := first | exact dq | fail) only [go_sem]) <;> rfl); (· exact hp); try (simp (maxSteps := 1000000) (disch := first | exact dq | fail) only [go_sem]))
        (repeat' (first | refine Nx.go ?_ | fail) <;> try (simp (maxSteps := 1000000) (disch := first | exact dq | fail) only [go_sem]))
      | true =>
        rw [hok] at hp hpe
        obtain ⟨n, hE, h2, h3⟩ := hpe rfl
        have hlast := hE.last
        obtain ⟨l', t, rfl, ht⟩ := hE
        rw [if_neg (fun h => by rcases h with h | h; cases h; simp at h), hlast]
        have hll : (l' ++ [t]).length = l'.length + 1 := by simp
        have hl0 : ¬ (((l' ++ [t]).length : Int) = 0) := by omega
        have hg := get_last (l' := l') (t := t)
        have hn1 : (((l' ++ [t]).length : Int) - 1).toNat = (l' ++ [t]).length - 1 := by omega
        have hgt : tkV t = .agg [.int .i64 t.kind, .int .i64 t.fr, .int .i64 n, .str (bs t.name), .str (bs t.val)] := by unfold tkV; rw [ht]
        generalize l' ++ [t] = l at *
        have hb2 : (s.length + 3) * (a + 1) ≤ (s.length + 3) * n := Nat.mul_le_mul_left _ h2
        have hb3 : (s.length + 3) * (a + 1) = (s.length + 3) * a + (s.length + 3) := by rw [Nat.mul_add, Nat.mul_one]
        (repeat' (first | refine Nx.go ?_ | fail) <;> try (simp (maxSteps := 1000000) (disch := first | exact dq | fail) only [go_sem, g1, decide_true]))
        all_goals (try omega)
        ((with_reducible first | apply left_callf | apply leftD_callf | apply leftF_callf); (· with_reducible rfl); (· (simp (maxSteps := 1000000) (disch := first | exact dq | fail) only [go_sem]) <;> rfl); (· exact hp); try (simp (maxSteps := 1000000) (disch := first | exact dq | fail) only [go_sem]))
        (repeat' (with_reducible first | refine Nx.go ?_ | refine And.intro ?_ ?_ | fail) <;> try (simp (maxSteps := 1000000) (disch := first | exact dq | fail) only [go_sem, hl0, hn1, hg, hgt, decide_false]))
        all_goals (try omega)
        refine ⟨(n, out ++ l), ⟨h3, by dsimp only; rw [List.length_append]; omega, hmore n _ h2 h3⟩, wk_by [0] ?_, by dsimp only; omega⟩
        (simp (maxSteps := 1000000) (disch := first | exact dq | fail) only [go_sem, List.map_append])
    · obtain rfl : a = s.length := by omega
      have g1 : ¬ (s.length : Int) < s.length := by omega
      rw [Nat.sub_self, lexG, if_neg (by intro h; cases h)]
      (repeat' (first | refine Nx.go ?_ | fail) <;> try (simp (maxSteps := 1000000) (disch := first | exact dq | fail) only [go_sem, g1, decide_false, Nat.le_refl, if_true]))
      all_goals (try omega)
      all_goals (try (rw [List.take_of_length_le (by simp)]))
end Go.Proofs.Ytnijpeeehnnipaa.AM
