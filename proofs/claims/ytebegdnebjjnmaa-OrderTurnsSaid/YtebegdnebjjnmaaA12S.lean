
/- The abstract machine, 12 and three quarters: what a callee did with the objects that it was given, as its caller sees it. No condition. -/
import Derived.Test.YtebegdnebjjnmaaA12R
set_option linter.unusedVariables false
set_option linter.unusedSimpArgs false
namespace Go.Proofs.Ytebegdnebjjnmaa.AM
open Go Go.RowKit

def setAll : List MO → List Nat → List MO → List MO
  | M, j :: l, o :: os => setAll (M.set j o) l os
  | M, [], os => M ++ os
  | M, _ :: _, [] => M
/-- The caller's objects, a callee having left M' of those with the names l. -/
def backM (M : List MO) (l : List Nat) (M' : List MO) : List MO := setAll M l (M'.map (renMO (sg l M.length)))
def backρ (ρ ρ' : Nat → Option Nat) (l : List Nat) (m : Nat) (j : Nat) : Option Nat := if j ∈ l then ρ' (l.idxOf j) else if j < m then ρ j else ρ' (l.length + (j - m))

theorem setAll_old : ∀ (l : List Nat) (M os : List MO) {j : Nat}, j < M.length → j ∉ l → (setAll M l os)[j]? = M[j]?
  | [], M, os, j, h, _ => by simp [setAll, List.getElem?_append_left h]
  | i :: l, M, [], j, h, _ => rfl
  | i :: l, M, o :: os, j, h, hn => by
    simp only [List.mem_cons, not_or] at hn
    rw [setAll, setAll_old l _ os (by simpa using h) hn.2, List.getElem?_set_ne (Ne.symm hn.1)]
theorem setAll_at : ∀ (l : List Nat) (M os : List MO) {i j : Nat}, l.Nodup → (∀ x ∈ l, x < M.length) → l.length ≤ os.length → l[i]? = some j → (setAll M l os)[j]? = os[i]?
  | [], M, os, i, j, _, _, _, h => by simp at h
  | a :: l, M, [], i, j, _, _, hl, h => by simp at hl
  | a :: l, M, o :: os, i, j, hn, hb, hl, h => by
    rw [List.nodup_cons] at hn
    cases i with
    | zero =>
      simp only [List.getElem?_cons_zero, Option.some.injEq] at h
      subst h
      rw [setAll, setAll_old l _ os (by simpa using hb a (by simp)) hn.1, List.getElem?_set_self (hb a (by simp))]; rfl
    | succ i =>
      simp only [List.getElem?_cons_succ] at h ⊢
      exact setAll_at l _ os hn.2 (fun x hx => by simpa using hb x (by simp [hx])) (by simpa using hl) h
theorem setAll_new : ∀ (l : List Nat) (M os : List MO) (i : Nat), l.length ≤ os.length → l.length ≤ i → (setAll M l os)[M.length + (i - l.length)]? = os[i]?
  | [], M, os, i, _, _ => by
    rw [setAll, List.getElem?_append_right (by simp)]; simp
  | a :: l, M, [], i, hl, h => by simp at hl
  | a :: l, M, o :: os, i, hl, h => by
    cases i with
    | zero => simp at h
    | succ i =>
      have := setAll_new l (M.set a o) os i (by simpa using hl) (by simpa using h)
      simp only [List.length_set] at this
      rw [setAll, List.length_cons, Nat.add_sub_add_right, List.getElem?_cons_succ]
      exact this
theorem setAll_len : ∀ (l : List Nat) (M os : List MO), l.length ≤ os.length → (setAll M l os).length = M.length + (os.length - l.length)
  | [], M, os, _ => by simp [setAll]
  | a :: l, M, [], hl => by simp at hl
  | a :: l, M, o :: os, hl => by
    rw [setAll, setAll_len l _ os (by simpa using hl)]; simp

/-- M2 with ρ2 is what the caller sees of M' with ρ'. -/
structure Back (M : List MO) (l : List Nat) (M' M2 : List MO) (ρ ρ' ρ2 : Nat → Option Nat) : Prop where
  nd : l.Nodup
  lt : ∀ j ∈ l, j < M.length
  at_ : ∀ i, M2[sg l M.length i]? = (M'[i]?).map (renMO (sg l M.length))
  ρat : ∀ i, ρ2 (sg l M.length i) = ρ' i
  old : ∀ k, k < M.length → k ∉ l → M2[k]? = M[k]? ∧ ρ2 k = ρ k
  cas : ∀ k, k < M2.length → (∃ i, i < M'.length ∧ k = sg l M.length i) ∨ (k < M.length ∧ k ∉ l)

theorem Back.mk' {M : List MO} {l : List Nat} {M' : List MO} {ρ ρ' : Nat → Option Nat} (hn : l.Nodup) (hb : ∀ j ∈ l, j < M.length) (hl : l.length ≤ M'.length) :
    Back M l M' (backM M l M') ρ ρ' (backρ ρ ρ' l M.length) where
  nd := hn
  lt := hb
  at_ i := by
    unfold backM
    rw [← List.getElem?_map]
    cases h : l[i]? with
    | some j =>
      have : sg l M.length i = j := by simp [sg, h]
      rw [this]
      exact setAll_at l M _ hn hb (by simpa using hl) h
    | none =>
      have e : sg l M.length i = M.length + (i - l.length) := by simp [sg, h]
      rw [e]
      exact setAll_new l M _ i (by simpa using hl) (List.getElem?_eq_none_iff.1 h)
  ρat i := by
    unfold backρ
    cases h : l[i]? with
    | some j =>
      have : sg l M.length i = j := by simp [sg, h]
      have hm := List.mem_of_getElem? h
      rw [this, if_pos hm]
      congr 1
      exact nodup_get hn (List.getElem?_eq_some_iff.2 ⟨List.idxOf_lt_length_of_mem hm, List.getElem_idxOf (List.idxOf_lt_length_of_mem hm)⟩) h
    | none =>
      have hi := List.getElem?_eq_none_iff.1 h
      have e : sg l M.length i = M.length + (i - l.length) := by simp [sg, h]
      rw [e, if_neg (fun hm => by have := hb _ hm; omega), if_neg (by omega)]
      congr 1; omega
  old k hk hkl := by
    refine ⟨setAll_old l M _ hk hkl, ?_⟩
    unfold backρ
    rw [if_neg hkl, if_pos hk]
  cas k hk := by
    unfold backM at hk
    rw [setAll_len l M _ (by simpa using hl), List.length_map] at hk
    by_cases h : k < M.length
    · by_cases hm : k ∈ l
      · obtain ⟨i, hi⟩ := List.getElem?_of_mem hm
        exact .inl ⟨i, Nat.lt_of_lt_of_le (lt_of_get hi) hl, by simp [sg, hi]⟩
      · exact .inr ⟨h, hm⟩
    · refine .inl ⟨l.length + (k - M.length), by omega, ?_⟩
      have : l[l.length + (k - M.length)]? = none := List.getElem?_eq_none (by omega)
      simp only [sg, this]; omega

section
variable {X O : Nat → Prop} {w0 : World} {M Ml M' M2 : List MO} {l : List Nat} {ρ ρ' ρ2 : Nat → Option Nat} {E E' : Nat → Prop} {w w' : World}

theorem RepA.back (hb : Back M l M' M2 ρ ρ' ρ2) {x : AV} {v : Value} (h : RepA M' ρ' E w x v) : RepA M2 ρ2 E w (ren (sg l M.length) x) v := by
  have lst : ∀ (cs : List AV) (vs : Array Value), 
      (∀ (i : Nat) (y : AV) (z : Value), cs[i]? = some y → vs[i]? = some z → RepA M2 ρ2 E w (ren (sg l M.length) y) z) →
      (∀ (i : Nat) (x : AV) (z : Value), (rens (sg l M.length) cs)[i]? = some x → vs[i]? = some z → RepA M2 ρ2 E w x z) := by
    intro cs vs ih i x z hx hz
    rw [rens_get] at hx
    cases hc : cs[i]? with
    | none => rw [hc] at hx; cases hx
    | some y => rw [hc] at hx; cases hx; exact ih i y z hc hz
  induction h with
  | any v => exact .any v
  | iv x v h => exact .iv x v h
  | nilsl A => exact .nilsl A
  | msl k off len n v m T sz xs h hn hv hf =>
    refine .msl _ off len n v m T sz xs (by rw [hb.at_, h]; rfl) hn hv (fun e => ?_)
    have := hf e
    unfold SlFact at this ⊢
    rw [hb.ρat]; exact this
  | mp k off T cs b h h1 => exact .mp _ off T (rens (sg l M.length) cs) b (by rw [hb.at_, h]; rfl) ((hb.ρat k).trans h1)
  | rp k n i c v m T sz xs h hn hv hf =>
    refine .rp _ n i c v m T sz xs (by rw [hb.at_, h]; rfl) hn hv (fun e => ?_)
    obtain ⟨b, h1, hv⟩ := hf e
    exact ⟨b, (hb.ρat k).trans h1, hv⟩
  | ip sz xs i c b o cap h hi => exact .ip sz xs i c b o cap h hi
  | agg cs vs hl h ih => exact .agg _ vs (by rw [hl, rens_len]) (lst cs vs ih)
  | tup cs vs hl h ih => exact .tup _ vs (by rw [hl, rens_len]) (lst cs vs ih)
  | fn f cs vs hl h ih => exact .fn f _ vs (by rw [hl, rens_len]) (lst cs vs ih)

/-- What is asked of a callee: what was known of values when it was called is known when it comes back. -/
def Keeps (M M' : List MO) (ρ ρ' : Nat → Option Nat) (E E' : Nat → Prop) (w w' : World) : Prop := ∀ x u, RepA M ρ E w x u → RepA M' ρ' E' w' x u

theorem sg_mem {k : Nat} (h : k ∈ l) (m : Nat) : ∃ i, l[i]? = some k ∧ sg l m i = k := by
  obtain ⟨i, hi⟩ := List.getElem?_of_mem h
  exact ⟨i, hi, by simp [sg, hi]⟩

theorem inv_ip' {sz : Nat} {xs : List IV} {i c : Nat} {v : Value} (h : RepA M ρ E w (.ip sz xs i c) v) : ∃ b o cap, RepI E w (.sl sz xs) (.slice (some ⟨b, o, none⟩) xs.length cap) ∧ i < xs.length ∧ v = .pointer (some ⟨b, o + (i * sz + c), none⟩) := by
  cases h with | ip _ _ _ _ b o cap h hi => exact ⟨b, o, cap, h, hi, rfl⟩

theorem RepA.over (hp : Part M l Ml) (hm : MemOk X O w0 M ρ w) (hb : Back M l M' M2 ρ ρ' ρ2) (hk : Keep (blocks Ml (partρ ρ l)) w w')
    (hf : Keeps Ml M' (partρ ρ l) ρ' E E' w w') {x : AV} {v : Value} (h : RepA M ρ E w x v) : RepA M2 ρ2 E' w' x v := by
  induction h with
  | any v => exact .any v
  | iv x v h => 
    have := hf (.iv x) v (.iv x v h)
    cases this with | iv _ _ h => exact .iv x v h
  | nilsl A => exact .nilsl A
  | msl k off len n v m T sz xs h hn hv hfa =>
    by_cases e : k ∈ l
    · obtain ⟨i, hi, hs⟩ := sg_mem e M.length
      have h1 : RepA Ml (partρ ρ l) E w (.msl i off len n) v := RepA.part hp (RepA.msl k off len n v m T sz xs h hn hv hfa) (.msl i off len n) (by simp only [ren, hs])
      have := (hf _ _ h1).back hb
      simp only [ren, hs] at this
      exact this
    · obtain ⟨h1, h2⟩ := hb.old k (lt_of_get h) e
      refine .msl k off len n v m T sz xs (h1.trans h) hn hv (fun e1 => ?_)
      obtain ⟨h4, A, c, hv, hlc, h5⟩ := hfa e1
      refine ⟨h4, A, c, hv, hlc, ?_⟩
      rw [h2]
      cases hkb : ρ k with
      | none => rw [hkb] at h5; exact h5
      | some b =>
        rw [hkb] at h5
        obtain ⟨h7, arr, fz, h8, h9⟩ := h5
        refine ⟨h7, arr, fz, ?_, h9⟩
        rw [hk.block b (hm.lt (lt_of_get h) hkb)]
        · exact h8
        · rintro ⟨i, hi, hbi⟩
          rw [hp.len] at hi
          have e1 := List.getElem?_eq_getElem hi
          obtain ⟨o1, _, g1⟩ := hp.of e1
          rw [partρ_get e1] at hbi
          exact e ((hm.inj _ _ b (lt_of_get h) (lt_of_get g1) hkb hbi) ▸ List.getElem_mem hi)
  | mp k off T cs b h h0 =>
    by_cases e : k ∈ l
    · obtain ⟨i, hi, hs⟩ := sg_mem e M.length
      have h1 : RepA Ml (partρ ρ l) E w (.mp i off) _ := RepA.part hp (RepA.mp k off T cs b h h0) (.mp i off) (by simp only [ren, hs])
      have := (hf _ _ h1).back hb
      simp only [ren, hs] at this
      exact this
    · obtain ⟨h1, h2⟩ := hb.old k (lt_of_get h) e
      exact .mp k off T cs b (h1.trans h) (h2.trans h0)
  | rp k n i c v m T sz xs h hn hv hfa =>
    by_cases e : k ∈ l
    · obtain ⟨i', hi, hs⟩ := sg_mem e M.length
      have h1 : RepA Ml (partρ ρ l) E w (.rp i' n i c) v := RepA.part hp (RepA.rp k n i c v m T sz xs h hn hv hfa) (.rp i' n i c) (by simp only [ren, hs])
      have := (hf _ _ h1).back hb
      simp only [ren, hs] at this
      exact this
    · obtain ⟨h1, h2⟩ := hb.old k (lt_of_get h) e
      refine .rp k n i c v m T sz xs (h1.trans h) hn hv (fun e1 => ?_)
      obtain ⟨b, h3, h4⟩ := hfa e1
      exact ⟨b, h2.trans h3, h4⟩
  | ip sz xs i c b o cap h hi =>
    have := hf _ _ (RepA.ip sz xs i c b o cap h hi)
    obtain ⟨b', o', cap', h', hi', hv⟩ := inv_ip' this
    rw [hv]; exact .ip sz xs i c b' o' cap' h' hi'
  | agg cs vs hl h ih => exact .agg cs vs hl ih
  | tup cs vs hl h ih => exact .tup cs vs hl ih
  | fn f cs vs hl h ih => exact .fn f cs vs hl ih

theorem ObjRep.over (hp : Part M l Ml) (hm : MemOk X O w0 M ρ w) (hb : Back M l M' M2 ρ ρ' ρ2) (hk : Keep (blocks Ml (partρ ρ l)) w w')
    (hf : Keeps Ml M' (partρ ρ l) ρ' E E' w w') {k : Nat} {o : MO} (hM : M[k]? = some o) (hkl : k ∉ l) (h : ObjRep M ρ E w k o) : ObjRep M2 ρ2 E' w' k o := by
  have hblk : ∀ b, ρ k = some b → w'.heap[b]? = w.heap[b]? := by
    intro b hkb
    refine hk.block b (hm.lt (lt_of_get hM) hkb) ?_
    rintro ⟨i, hi, hbi⟩
    rw [hp.len] at hi
    have e1 := List.getElem?_eq_getElem hi
    obtain ⟨o1, _, g1⟩ := hp.of e1
    rw [partρ_get e1] at hbi
    exact hkl ((hm.inj _ _ b (lt_of_get hM) (lt_of_get g1) hkb hbi) ▸ List.getElem_mem hi)
  have h2 := (hb.old k (lt_of_get hM) hkl).2
  cases o with
  | row m T sz xs =>
    obtain ⟨h3, h4⟩ := h
    refine ⟨h3, ?_⟩
    rw [h2]
    cases hkb : ρ k with
    | none => rw [hkb] at h4; exact h4
    | some b =>
      rw [hkb] at h4
      obtain ⟨arr, fz, h5, h6, h7, h8⟩ := h4
      refine ⟨arr, fz, (hblk b hkb).trans h5, h6, h7, fun i x j y hx hy => ?_⟩
      obtain ⟨u, hu, hr⟩ := h8 i x j y hx hy
      have := hf (.iv y) u (.iv y u hr)
      cases this with | iv _ _ h => exact ⟨u, hu, h⟩
  | var T cs =>
    obtain ⟨b, arr, fz, h3, h4, h5, h6, h7⟩ := h
    exact ⟨b, arr, fz, h2.trans h3, (hblk b h3).trans h4, h5, h6, fun i y u hy hu => (h7 i y u hy hu).over hp hm hb hk hf⟩

theorem ObjRep.back (hb : Back M l M' M2 ρ ρ' ρ2) {i : Nat} {o : MO} (h : ObjRep M' ρ' E w i o) : ObjRep M2 ρ2 E w (sg l M.length i) (renMO (sg l M.length) o) := by
  cases o with
  | row m T sz xs =>
    obtain ⟨h1, h2⟩ := h
    refine ⟨h1, ?_⟩
    rw [hb.ρat]; exact h2
  | var T cs =>
    obtain ⟨b, arr, fz, h3, h4, h5, h6, h7⟩ := h
    refine ⟨b, arr, fz, (hb.ρat i).trans h3, h4, h5, by rw [h6, rens_len], fun j y u hy hu => ?_⟩
    rw [rens_get] at hy
    cases hc : cs[j]? with
    | none => rw [hc] at hy; cases hy
    | some z => rw [hc] at hy; cases hy; exact (h7 j z u hc hu).back hb

theorem excl_back (hp : Part M l Ml) (hb : Back M l M' M2 ρ ρ' ρ2) : excl X M2 ρ2 = excl (othX X M ρ l) M' ρ' := by
  funext b
  apply propext
  constructor
  · rintro (hX | ⟨k, o, h1, h2, h3⟩)
    · exact .inl (.inl hX)
    · rcases hb.cas k (lt_of_get h1) with ⟨i, hi, rfl⟩ | ⟨hk, hkl⟩
      · rw [hb.at_] at h1
        cases hc : M'[i]? with
        | none => rw [hc] at h1; cases h1
        | some o' =>
          rw [hc] at h1; cases h1
          exact .inr ⟨i, o', hc, by rw [← h2, renMO_mut], (hb.ρat i) ▸ h3⟩
      · obtain ⟨h4, h5⟩ := hb.old k hk hkl
        exact .inl (.inr ⟨k, o, h4 ▸ h1, h2, h5 ▸ h3, hkl⟩)
  · rintro ((hX | ⟨k, o, h1, h2, h3, h4⟩) | ⟨i, o, h1, h2, h3⟩)
    · exact .inl hX
    · obtain ⟨h5, h6⟩ := hb.old k (lt_of_get h1) h4
      exact .inr ⟨k, o, h5.trans h1, h2, h6.trans h3⟩
    · exact .inr ⟨sg l M.length i, _, by rw [hb.at_, h1]; rfl, by rw [renMO_mut]; exact h2, (hb.ρat i).trans h3⟩

theorem MemOk.back (hp : Part M l Ml) (hm : MemOk X O w0 M ρ w) (hb : Back M l M' M2 ρ ρ' ρ2) (hm' : MemOk (othX X M ρ l) (blocks Ml (partρ ρ l)) w M' ρ' w')
    (hf : Keeps Ml M' (partρ ρ l) ρ' (excl X M ρ) (excl (othX X M ρ l) M' ρ') w w') : MemOk X O w0 M2 ρ2 w' := by
  have hE := excl_back (X := X) hp hb
  have hO : ∀ b, blocks Ml (partρ ρ l) b → ¬ X b ∧ (O b ∨ w0.heap.size ≤ b) ∧ ∃ j, j ∈ l ∧ j < M.length ∧ ρ j = some b := by
    rintro b ⟨i, hi, hbi⟩
    rw [hp.len] at hi
    have e1 := List.getElem?_eq_getElem hi
    obtain ⟨o1, _, g1⟩ := hp.of e1
    rw [partρ_get e1] at hbi
    have := hm.own _ b (lt_of_get g1) hbi
    exact ⟨this.1, this.2, _, List.getElem_mem hi, lt_of_get g1, hbi⟩
  refine { obj := fun k o hk => ?_, inj := fun i j b hi hj hib hjb => ?_, own := fun k b hk hkb => ?_, keep := ?_, ext := fun b hX => ?_ }
  · rw [hE]
    rcases hb.cas k (lt_of_get hk) with ⟨i, hi, rfl⟩ | ⟨hkM, hkl⟩
    · rw [hb.at_] at hk
      cases hc : M'[i]? with
      | none => rw [hc] at hk; cases hk
      | some o' => rw [hc] at hk; cases hk; exact (hm'.obj i o' hc).back hb
    · have h1 := (hb.old k hkM hkl).1 ▸ hk
      exact (hm.obj k o h1).over hp hm hb hm'.keep hf h1 hkl
  · have key : ∀ i k b, i < M'.length → k < M.length → k ∉ l → ρ' i = some b → ρ k = some b → False := by
      intro i k b hi hk hkl hib hkb
      rcases (hm'.own i b hi hib).2 with h1 | h1
      · obtain ⟨_, _, j, hj, hjM, hjb⟩ := hO b h1
        exact hkl (hm.inj k j b hk hjM hkb hjb ▸ hj)
      · have := hm.lt hk hkb; omega
    rcases hb.cas i hi with ⟨i', hi', rfl⟩ | ⟨hiM, hil⟩ <;> rcases hb.cas j hj with ⟨j', hj', rfl⟩ | ⟨hjM, hjl⟩
    · rw [hb.ρat] at hib hjb
      rw [hm'.inj i' j' b hi' hj' hib hjb]
    · rw [hb.ρat] at hib; rw [(hb.old j hjM hjl).2] at hjb
      exact (key i' j b hi' hjM hjl hib hjb).elim
    · rw [hb.ρat] at hjb; rw [(hb.old i hiM hil).2] at hib
      exact (key j' i b hj' hiM hil hjb hib).elim
    · rw [(hb.old i hiM hil).2] at hib; rw [(hb.old j hjM hjl).2] at hjb
      exact hm.inj i j b hiM hjM hib hjb
  · rcases hb.cas k hk with ⟨i, hi, rfl⟩ | ⟨hkM, hkl⟩
    · rw [hb.ρat] at hkb
      obtain ⟨h1, h2⟩ := hm'.own i b hi hkb
      refine ⟨fun hX => h1 (.inl hX), ?_⟩
      rcases h2 with h2 | h2
      · exact (hO b h2).2.1
      · exact .inr (Nat.le_trans hm.keep.size h2)
    · rw [(hb.old k hkM hkl).2] at hkb
      exact hm.own k b hkM hkb
  · exact hm.keep.trans hm'.keep (fun x hx hOx => by
      rcases (hO x hOx).2.1 with h | h
      · exact h
      · omega)
  · exact Nat.lt_of_lt_of_le (hm.ext b hX) hm'.keep.size

end

end Go.Proofs.Ytebegdnebjjnmaa.AM
