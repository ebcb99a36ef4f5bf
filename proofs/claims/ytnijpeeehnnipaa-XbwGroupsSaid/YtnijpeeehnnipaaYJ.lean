
/- Chapter 13's document: the nodes of a tree that was read stand in the order in which they begin. No condition. -/
import Derived.Test.YtnijpeeehnnipaaYI
set_option linter.unusedVariables false
set_option linter.unusedSimpArgs false
namespace Go.Proofs.Ytnijpeeehnnipaa.AM
open Go Go.RowKit

def parN (m : List Nm) (i : Nat) : Int := (m.getD i nm0).par
def PreOk (m : List Nm) : Prop := ∀ a x : Nat, x < a → a < m.length → parN m a < x → parN m a ≤ parN m x
def Above (q : Int) (m : List Nm) : Prop := ∀ x : Nat, q < x → x < m.length → q ≤ parN m x
def Ext (q : Int) (a b : List Nm) : Prop := PreOk a ∧ Above q a → PreOk b ∧ ∀ p ≤ q, Above p a → Above p b
theorem Ext.refl (q : Int) (a : List Nm) : Ext q a a := fun h => ⟨h.1, fun p _ h => h⟩
theorem Ext.trans {q : Int} {a b c : List Nm} (h : Ext q a b) (k : Ext q b c) : Ext q a c := fun x => by
  obtain ⟨h1, h2⟩ := h x
  obtain ⟨k1, k2⟩ := k ⟨h1, h2 q (Int.le_refl _) x.2⟩
  exact ⟨k1, fun p hp hx => k2 p hp (h2 p hp hx)⟩
theorem parN_old {m : List Nm} {x : Nm} {i : Nat} (h : i < m.length) : parN (m ++ [x]) i = parN m i := by
  unfold parN
  rw [List.getD, List.getElem?_append_left h]; rfl
theorem parN_new (m : List Nm) (x : Nm) : parN (m ++ [x]) m.length = x.par := by
  unfold parN
  simp [List.getD]
theorem Ext.one {q : Int} {m : List Nm} {x : Nm} (hx : x.par = q) : Ext q m (m ++ [x]) := fun ⟨h1, h2⟩ => by
  refine ⟨fun a y hy ha hp => ?_, fun p hp hab y hy hl => ?_⟩
  · rw [List.length_append, List.length_singleton] at ha
    rw [parN_old (show y < m.length by omega)]
    by_cases e : a < m.length
    · rw [parN_old e] at hp ⊢; exact h1 a y hy e hp
    · obtain rfl : a = m.length := by omega
      rw [parN_new, hx] at hp ⊢
      exact h2 y hp hy
  · rw [List.length_append, List.length_singleton] at hl
    by_cases e : y < m.length
    · rw [parN_old e]; exact hab y hy e
    · obtain rfl : y = m.length := by omega
      rw [parN_new, hx]; exact hp
theorem attG_ext (l : List Tk) (me : Nat) : ∀ f i ns, Ext me ns (attG l me f i ns).1
  | 0, i, ns => Ext.refl _ _
  | f + 1, i, ns => by
    rw [attG]
    split
    · split
      · exact Ext.refl _ _
      · exact (Ext.one (q := (me : Int)) rfl).trans (attG_ext l me f (i + 1) _)
    · exact Ext.refl _ _
theorem kidG_ext (l : List Tk) (rec : Nat → List Nm → List Nm × Nat × Bool) (me : Nat) (hrec : ∀ i ns, me < ns.length → Ext me ns (rec i ns).1) (hg : ∀ i ns, me < ns.length → ns.length ≤ (rec i ns).1.length) (name : Str) : ∀ f i ns, me < ns.length → Ext me ns (kidG rec l me name f i ns).1
  | 0, i, ns, h => Ext.refl _ _
  | f + 1, i, ns, h => by
    rw [kidG]
    have hn : Ext me ns (if (txtF l i).1 = [] then ns else ns ++ [⟨3, -1, me, (txtF l i).1, []⟩]) := by
      split
      · exact Ext.refl _ _
      · exact Ext.one rfl
    have hln : ns.length ≤ (if (txtF l i).1 = [] then ns else ns ++ [⟨3, -1, me, (txtF l i).1, []⟩]).length := by
      split
      · exact Nat.le_refl _
      · rw [List.length_append]; omega
    generalize (if (txtF l i).1 = [] then ns else ns ++ [⟨3, -1, me, (txtF l i).1, []⟩]) = n1 at *
    generalize (txtF l i).2 = j at *
    split
    · exact hn
    · split
      · exact hn
      · have hr := hrec j n1 (by omega)
        have hgr := hg j n1 (by omega)
        split
        · exact hn.trans hr
        · exact (hn.trans hr).trans (kidG_ext l rec me hrec hg name f _ _ (by omega))
theorem Ext.elem {par : Int} {ns m : List Nm} {x : Nm} (hx : x.par = par) (hp : par < ns.length) (h : Ext ns.length (ns ++ [x]) m) : Ext par ns m ∧ (PreOk ns ∧ Above par ns → Above ns.length m) := by
  have h0 : Above ns.length (ns ++ [x]) := fun y hy hl => by rw [List.length_append, List.length_singleton] at hl; omega
  refine ⟨fun hy => ?_, fun hy => ?_⟩
  · obtain ⟨k1, k2⟩ := Ext.one hx hy
    obtain ⟨h1, h2⟩ := h ⟨k1, h0⟩
    exact ⟨h1, fun p hp2 hab => h2 p (by omega) (k2 p hp2 hab)⟩
  · exact (h ⟨(Ext.one hx hy).1, h0⟩).2 _ (Int.le_refl _) h0
theorem elemG_ext (l : List Tk) : ∀ f i par ns, par < (ns.length : Int) → Ext par ns (elemG l f i par ns).1 ∧ (PreOk ns ∧ Above par ns → Above ns.length (elemG l f i par ns).1)
  | 0, i, par, ns, hp => ⟨Ext.refl _ _, fun _ y hy hl => by rw [elemG] at hl; dsimp only at hl; omega⟩
  | f + 1, i, par, ns, hp => by
    rw [elemG]
    split
    · exact ⟨Ext.refl _ _, fun _ y hy hl => by dsimp only at hl; omega⟩
    · have h1 := attG_ext l ns.length l.length (i + 1) (ns ++ [⟨1, 0, par, [], (l.getD i tk0).name⟩])
      have g1 := (attG_grow l ns.length l.length (i + 1) (ns ++ [⟨1, 0, par, [], (l.getD i tk0).name⟩]) (by rw [List.length_append, List.length_singleton]; omega)).1
      rw [List.length_append, List.length_singleton] at g1
      dsimp only
      generalize attG l ns.length l.length (i + 1) (ns ++ [⟨1, 0, par, [], (l.getD i tk0).name⟩]) = a at *
      split
      · exact Ext.elem rfl hp h1
      · split
        · exact Ext.elem rfl hp h1
        · split
          · exact Ext.elem rfl hp h1
          · refine Ext.elem rfl hp (h1.trans (kidG_ext l _ ns.length (fun i2 n2 h3 => (elemG_ext l f i2 ns.length n2 (by omega)).1) (fun i2 n2 h3 => (elemG_grow l f i2 ns.length n2 (by omega)).1) _ _ _ _ (by omega)))
theorem elemG_new (l : List Tk) (f i : Nat) (par : Int) (ns : List Nm) (hp : par < ns.length) (h : (elemG l f i par ns).2.2 = true) : ns.length < (elemG l f i par ns).1.length := by
  cases f with
  | zero => rw [elemG] at h; cases h
  | succ f =>
    have g0 := elemG_grow l (f + 1) i par ns hp
    rw [elemG] at h ⊢
    split at h
    · cases h
    · rename_i c
      rw [if_neg c]
      have g1 := (attG_grow l ns.length l.length (i + 1) (ns ++ [⟨1, 0, par, [], (l.getD i tk0).name⟩]) (by rw [List.length_append, List.length_singleton]; omega)).1
      rw [List.length_append, List.length_singleton] at g1
      dsimp only
      generalize attG l ns.length l.length (i + 1) (ns ++ [⟨1, 0, par, [], (l.getD i tk0).name⟩]) = a at *
      split
      · exact g1
      · split
        · exact g1
        · split
          · exact g1
          · have := (kidG_grow l (fun i2 n2 => elemG l f i2 ns.length n2) ns.length (fun i2 n2 h3 => elemG_grow l f i2 ns.length n2 (by omega)) ((l.getD i tk0).name) (l.length + 1) (a.2.1 + 1) a.1 (by omega)).1
            exact Nat.lt_of_lt_of_le g1 this
structure TOk (t : Tr) : Prop where
  pos : 0 < t.len
  par : ∀ i : Nat, 0 < i → i < t.len → 0 ≤ parF t i
  pre : ∀ a x : Nat, x < a → a < t.len → parF t a < x → parF t a ≤ parF t x
  sym : ∀ i : Int, 0 ≤ i → i < t.len → 0 ≤ symF t i
theorem elem_top (l : List Tk) (i : Nat) : (elemG l 3001 i (-1) []).2.2 = true → 0 < (elemG l 3001 i (-1) []).1.length ∧ ParOk (elemG l 3001 i (-1) []).1 ∧ PreOk (elemG l 3001 i (-1) []).1 ∧ Above 0 (elemG l 3001 i (-1) []).1 := fun h => by
  have h1 := elemG_new l 3001 i (-1) [] (by simp) h
  have h2 := elemG_ext l 3001 i (-1) [] (by simp)
  have h3 := elemG_grow l 3001 i (-1) [] (by simp)
  have hp : PreOk ([] : List Nm) ∧ Above (-1) [] := ⟨fun a x _ ha => absurd ha (Nat.not_lt_zero _), fun x _ hl => absurd hl (Nat.not_lt_zero _)⟩
  exact ⟨h1, h3.2 (fun i h => absurd h (Nat.not_lt_zero _)), (h2.1 hp).1, h2.2 hp⟩
theorem lim_ok {ns : List Nm} (h : (limF ns).2 = 0) : (limF ns).1 = ⟨nmsF ns ns.length, ns.map (ndOf (nmsF ns ns.length))⟩ := by
  unfold limF at *
  split at h
  · cases h
  rename_i c1
  rw [if_neg c1]
  split at h
  · cases h
  rename_i c2
  rw [if_neg c2]
  split at h
  · cases h
  rename_i c3
  rw [if_neg c3]
theorem lim_par {ns : List Nm} (h : (limF ns).2 = 0) (hp : ParOk ns) {i : Nat} (hi : i < ns.length) : parF (limF ns).1 i = if 0 ≤ parN ns i then parN ns i else -1 := by
  rw [lim_ok h]
  have hat : Tr.at ⟨nmsF ns ns.length, ns.map (ndOf (nmsF ns ns.length))⟩ i = ndOf (nmsF ns ns.length) (ns.getD i nm0) := by
    unfold Tr.at
    simp [List.getD, List.getElem?_eq_getElem hi]
  rw [parF_in (by dsimp only; rw [List.length_map]; exact hi), hat]
  have e : (ndOf (nmsF ns ns.length) (ns.getD i nm0)).par = parN ns i := rfl
  have hpi : parN ns i < i := hp i hi
  rw [e]
  by_cases c : 0 ≤ parN ns i
  · rw [if_pos ⟨c, hpi⟩, if_pos c]
  · rw [if_neg (fun h => c h.1), if_neg c]
theorem parse_ok {s : Str} (h : (parseF s).2 = 0) : TOk (parseF s).1 := by
  obtain ⟨ns, he, h1, h2, h3, h4⟩ : ∃ ns, parseF s = limF ns ∧ 0 < ns.length ∧ ParOk ns ∧ PreOk ns ∧ Above 0 ns := by
    unfold parseF at h ⊢
    split at h
    · rename_i c; exact absurd h c
    · rename_i c1
      rw [if_neg c1]
      split at h
      · cases h
      · rename_i c2
        rw [if_neg c2]
        split at h
        · cases h
        · rename_i c3
          rw [if_neg c3]
          have hb : (elemG (lexF s).1 3001 (txtF (lexF s).1 0).2 (-1) []).2.2 = true := by
            cases hx : (elemG (lexF s).1 3001 (txtF (lexF s).1 0).2 (-1) []).2.2 with
            | true => rfl
            | false => exact absurd (.inr hx) c2
          exact ⟨_, rfl, elem_top _ _ hb⟩
  have hsy := parse_sym s
  rw [he] at h hsy ⊢
  have hlen : (limF ns).1.len = ns.length := by rw [lim_ok h]; unfold Tr.len; rw [List.length_map]
  have hq : ∀ i : Nat, 0 < i → i < ns.length → parF (limF ns).1 i = parN ns i ∧ 0 ≤ parN ns i := fun i h0 hi => by
    have := h4 i (by omega) hi
    rw [lim_par h h2 hi, if_pos this]
    exact ⟨rfl, this⟩
  refine ⟨by omega, fun i h0 hi => ?_, fun a x hx ha hp => ?_, fun i h0 hi => hsy i ⟨h0, hi⟩⟩
  · obtain ⟨e, h5⟩ := hq i h0 (by omega); omega
  · obtain ⟨e, h5⟩ := hq a (by omega) (by omega)
    rw [e] at hp ⊢
    by_cases x0 : x = 0
    · subst x0; omega
    · obtain ⟨e2, _⟩ := hq x (by omega) (by omega)
      rw [e2]
      exact h3 a x hx (by omega) hp
end Go.Proofs.Ytnijpeeehnnipaa.AM
