
/- The abstract machine, 2: how a state goes on when memory of the call's own is made, written, frozen, or a callee runs. No condition. -/
import Derived.Test.YtebegdnebjjnmaaA1
set_option linter.unusedVariables false
set_option linter.unusedSimpArgs false
namespace Go.Proofs.Ytebegdnebjjnmaa.AM
open Go Go.RowKit

theorem ObjRep.mono {M M' : List MO} {ρ ρ' : Nat → Option Nat} {E E' : Nat → Prop} {w w' : World} {k : Nat} {o : MO} (h : ObjRep M ρ E w k o) (hw : Evo M M' ρ ρ' E E' w w')
    (hρ : ρ' k = ρ k) (hb : ∀ b, ρ k = some b → w'.heap[b]? = w.heap[b]?) : ObjRep M' ρ' E' w' k o := by
  cases o with
  | row m T sz xs =>
    obtain ⟨h1, h2⟩ := h
    refine ⟨h1, ?_⟩
    rw [hρ]
    cases hk : ρ k with
    | none => rw [hk] at h2; exact h2
    | some b =>
      rw [hk] at h2
      obtain ⟨arr, fz, h3, h4, h5, h6⟩ := h2
      refine ⟨arr, fz, (hb b hk).trans h3, h4, h5, fun i x j y hx hy => ?_⟩
      obtain ⟨u, hu, hr⟩ := h6 i x j y hx hy
      exact ⟨u, hu, hr.mono hw.stay⟩
  | var T cs =>
    obtain ⟨b, arr, fz, h1, h2, h3, h4, h5⟩ := h
    exact ⟨b, arr, fz, hρ.trans h1, (hb b h1).trans h2, h3, h4, fun i y u hy hu => (h5 i y u hy hu).mono hw⟩

/-- All but object k stays. -/
structure But (k : Nat) (M M' : List MO) (ρ ρ' : Nat → Option Nat) (w w' : World) : Prop where
  len : M.length ≤ M'.length
  oth : ∀ j o, j ≠ k → M'[j]? = some o → M[j]? = some o ∧ ρ' j = ρ j ∧ ∀ b, ρ j = some b → w'.heap[b]? = w.heap[b]?

theorem lt_of_get {α : Type} {M : List α} {k : Nat} {o : α} (h : M[k]? = some o) : k < M.length := (List.getElem?_eq_some_iff.1 h).1

theorem MemOk.change {X O : Nat → Prop} {w0 : World} {M M' : List MO} {ρ ρ' : Nat → Option Nat} {w w' : World} (h : MemOk X O w0 M ρ w) (k : Nat)
    (hev : Evo M M' ρ ρ' (excl X M ρ) (excl X M' ρ') w w') (hbut : But k M M' ρ ρ' w w')
    (hk : ∀ o, M'[k]? = some o → ObjRep M' ρ' (excl X M' ρ') w' k o)
    (hi : ∀ b, ρ' k = some b → k < M'.length → (∀ j, j ≠ k → j < M'.length → ρ' j ≠ some b) ∧ ¬ X b ∧ (O b ∨ w0.heap.size ≤ b))
    (hkeep : Keep O w0 w') (hext : w.heap.size ≤ w'.heap.size) : MemOk X O w0 M' ρ' w' where
  obj j o hj := by
    by_cases e : j = k
    · subst e; exact hk o hj
    · obtain ⟨h1, h2, h3⟩ := hbut.oth j o e hj
      exact (h.obj j o h1).mono hev h2 h3
  inj i j b hiM hjM hib hjb := by
    by_cases e : i = k
    · subst e
      by_cases e2 : j = i
      · exact e2.symm
      · exact absurd hjb ((hi b hib hiM).1 j e2 hjM)
    · by_cases e2 : j = k
      · subst e2; exact absurd hib ((hi b hjb hjM).1 i e hiM)
      · obtain ⟨oi, hoi⟩ : ∃ o, M'[i]? = some o := ⟨_, List.getElem?_eq_getElem hiM⟩
        obtain ⟨oj, hoj⟩ : ∃ o, M'[j]? = some o := ⟨_, List.getElem?_eq_getElem hjM⟩
        obtain ⟨a1, a2, _⟩ := hbut.oth i oi e hoi
        obtain ⟨b1, b2, _⟩ := hbut.oth j oj e2 hoj
        exact h.inj i j b (lt_of_get a1) (lt_of_get b1) (a2 ▸ hib) (b2 ▸ hjb)
  own j b hj hjb := by
    by_cases e : j = k
    · subst e; exact (hi b hjb hj).2
    · obtain ⟨oj, hoj⟩ : ∃ o, M'[j]? = some o := ⟨_, List.getElem?_eq_getElem hj⟩
      obtain ⟨b1, b2, _⟩ := hbut.oth j oj e hoj
      exact h.own j b (lt_of_get b1) (b2 ▸ hjb)
  keep := hkeep
  ext b hb := Nat.lt_of_lt_of_le (h.ext b hb) hext

/-- The heap grew by one block. -/
structure News (w w' : World) (o : Obj) : Prop where
  os : w'.os = w.os
  tape : w'.tape = w.tape
  output : w'.output = w.output
  heap : w'.heap = w.heap.push o

theorem News.old {w w' : World} {o : Obj} (h : News w w' o) {b : Nat} (hb : b < w.heap.size) : w'.heap[b]? = w.heap[b]? := by
  rw [h.heap, Array.getElem?_push, if_neg (by omega)]
theorem News.new {w w' : World} {o : Obj} (h : News w w' o) : w'.heap[w.heap.size]? = some o := by
  rw [h.heap, Array.getElem?_push, if_pos rfl]
theorem News.size {w w' : World} {o : Obj} (h : News w w' o) : w'.heap.size = w.heap.size + 1 := by rw [h.heap, Array.size_push]
theorem News.keep {O : Nat → Prop} {w0 w w' : World} {o : Obj} (h : News w w' o) (k : Keep O w0 w) : Keep O w0 w' :=
  ⟨h.os.trans k.os, h.tape.trans k.tape, h.output.trans k.output, by rw [h.size]; have := k.size; omega,
   fun b hb hO => (h.old (Nat.lt_of_lt_of_le hb k.size)).trans (k.block b hb hO)⟩

/-- Block b was written. -/
structure Wrote (w w' : World) (b : Nat) : Prop where
  os : w'.os = w.os
  tape : w'.tape = w.tape
  output : w'.output = w.output
  size : w'.heap.size = w.heap.size
  oth : ∀ j, j ≠ b → w'.heap[j]? = w.heap[j]?

theorem Wrote.refl (w : World) (b : Nat) : Wrote w w b := ⟨rfl, rfl, rfl, rfl, fun _ _ => rfl⟩
theorem Wrote.trans {w w' w'' : World} {b : Nat} (h : Wrote w w' b) (k : Wrote w' w'' b) : Wrote w w'' b :=
  ⟨k.os.trans h.os, k.tape.trans h.tape, k.output.trans h.output, k.size.trans h.size, fun j hj => (k.oth j hj).trans (h.oth j hj)⟩
theorem Wrote.keep {O : Nat → Prop} {w0 w w' : World} {b : Nat} (h : Wrote w w' b) (k : Keep O w0 w) (hb : O b ∨ w0.heap.size ≤ b) : Keep O w0 w' :=
  ⟨h.os.trans k.os, h.tape.trans k.tape, h.output.trans k.output, by rw [h.size]; exact k.size,
   fun j hj hO => (h.oth j (by rintro rfl; rcases hb with hb | hb <;> first | exact hO hb | omega)).trans (k.block j hj hO)⟩

def updρ (ρ : Nat → Option Nat) (k : Nat) (b : Option Nat) : Nat → Option Nat := fun j => if j = k then b else ρ j
theorem updρ_same (ρ : Nat → Option Nat) (k : Nat) (b : Option Nat) : updρ ρ k b k = b := by simp [updρ]
theorem updρ_ne (ρ : Nat → Option Nat) {k j : Nat} (b : Option Nat) (h : j ≠ k) : updρ ρ k b j = ρ j := by simp [updρ, h]

theorem get_append_old {α : Type} {M N : List α} {k : Nat} {o : α} (h : M[k]? = some o) : (M ++ N)[k]? = some o := by
  rw [List.getElem?_append_left (lt_of_get h)]; exact h

/-- A new object at the end of the list; its block (if it has one) is new. -/
theorem Evo.push {X : Nat → Prop} {M : List MO} {ρ : Nat → Option Nat} {w w' : World} (o : MO) (b : Option Nat)
    (hs : w.heap.size ≤ w'.heap.size) (hold : ∀ j, j < w.heap.size → w'.heap[j]? = w.heap[j]?) (hb : ∀ x, b = some x → w.heap.size ≤ x) :
    Evo M (M ++ [o]) ρ (updρ ρ M.length b) (excl X M ρ) (excl X (M ++ [o]) (updρ ρ M.length b)) w w' where
  stay := ⟨hs, fun j hj hE => ⟨hold j hj, by
    rintro (hX | ⟨k, o', hk, hm, hρ⟩)
    · exact hE (.inl hX)
    · by_cases e : k = M.length
      · subst e; rw [updρ_same] at hρ; have := hb j hρ; omega
      · rw [updρ_ne _ _ e] at hρ
        rw [List.getElem?_append] at hk
        split at hk
        · exact hE (.inr ⟨k, o', hk, hm, hρ⟩)
        · have : k - M.length ≠ 0 := by omega
          rw [List.getElem?_singleton, if_neg this] at hk; cases hk⟩⟩
  var k T cs hk := ⟨cs, get_append_old hk, updρ_ne _ _ (by have := lt_of_get hk; omega)⟩
  row k m T sz xs hk := ⟨m, xs, get_append_old hk, Nat.le_refl _, fun _ => ⟨updρ_ne _ _ (by have := lt_of_get hk; omega),
    fun c arr fz hc hh => ⟨arr, fz, (hold c (by
      rcases Nat.lt_or_ge c w.heap.size with h | h
      · exact h
      · rw [Array.getElem?_eq_none h] at hh; cases hh)).trans hh, Nat.le_refl _⟩⟩⟩

theorem MemOk.lt {X O : Nat → Prop} {w0 : World} {M : List MO} {ρ : Nat → Option Nat} {w : World} (h : MemOk X O w0 M ρ w) {k b : Nat} (hk : k < M.length) (hb : ρ k = some b) : b < w.heap.size := by
  obtain ⟨o, ho⟩ : ∃ o, M[k]? = some o := ⟨_, List.getElem?_eq_getElem hk⟩
  have hr := h.obj k o ho
  have aux : ∀ {o : Obj}, w.heap[b]? = some o → b < w.heap.size := fun h => (Array.getElem?_eq_some_iff.1 h).1
  cases o with
  | row m T sz xs =>
    have h2 := hr.2
    rw [hb] at h2
    obtain ⟨arr, fz, h3, _⟩ := h2
    exact aux h3
  | var T cs =>
    obtain ⟨b', arr, fz, h1, h2, _⟩ := hr
    rw [hb] at h1; cases h1
    exact aux h2

theorem MemOk.push {X O : Nat → Prop} {w0 : World} {M : List MO} {ρ : Nat → Option Nat} {w w' : World} (h : MemOk X O w0 M ρ w) (o : MO) (b : Option Nat)
    (hkeep : Keep O w0 w') (hs : w.heap.size ≤ w'.heap.size) (hold : ∀ j, j < w.heap.size → w'.heap[j]? = w.heap[j]?) (hb : ∀ x, b = some x → w.heap.size ≤ x)
    (ho : ObjRep (M ++ [o]) (updρ ρ M.length b) (excl X (M ++ [o]) (updρ ρ M.length b)) w' M.length o) : MemOk X O w0 (M ++ [o]) (updρ ρ M.length b) w' := by
  refine h.change M.length (Evo.push o b hs hold hb) ⟨by simp, fun j o' hj ho' => ?_⟩ (fun o' ho' => ?_) (fun x hx _ => ?_) hkeep hs
  · rw [List.getElem?_append] at ho'
    split at ho'
    · refine ⟨ho', updρ_ne _ _ hj, fun c hc => hold c (h.lt (by assumption) hc)⟩
    · have : j - M.length ≠ 0 := by omega
      rw [List.getElem?_singleton, if_neg this] at ho'; cases ho'
  · simp at ho'; subst ho'; exact ho
  · rw [updρ_same] at hx
    have hx' := hb x hx
    refine ⟨fun j hj hjM e => ?_, fun hX => ?_, .inr ?_⟩
    · rw [updρ_ne _ _ hj] at e
      have := h.lt (by simp at hjM; omega) e
      omega
    · have := h.ext x hX; omega
    · have := h.keep.size; omega

/-- Object k is turned in its own block; what slots say of it stays. -/
theorem Evo.set {X : Nat → Prop} {M : List MO} {ρ : Nat → Option Nat} {w w' : World} (k b : Nat) (o o' : MO) (hk : M[k]? = some o) (hb : ρ k = some b) (hm : o.mut = true) (hwr : Wrote w w' b)
    (hkind : match o, o' with
      | .var T _, .var T' _ => T = T'
      | .row _ T sz xs, .row _ T' sz' xs' => T = T' ∧ sz = sz' ∧ xs.length ≤ xs'.length ∧ ∀ arr fz, w.heap[b]? = some (.cells arr T fz) → ∃ arr' fz', w'.heap[b]? = some (.cells arr' T fz') ∧ arr.size ≤ arr'.size
      | _, _ => False)
    (hinj : ∀ j, j ≠ k → j < M.length → ρ j ≠ some b) :
    Evo M (M.set k o') ρ ρ (excl X M ρ) (excl X (M.set k o') ρ) w w' where
  stay := ⟨by rw [hwr.size]; exact Nat.le_refl _, fun j hj hE => by
    have hjb : j ≠ b := fun e => hE (.inr ⟨k, o, hk, hm, by rw [hb, e]⟩)
    refine ⟨hwr.oth j hjb, ?_⟩
    rintro (hX | ⟨i, o2, hi, hm2, hρ⟩)
    · exact hE (.inl hX)
    · by_cases e : i = k
      · subst e; rw [hb] at hρ; cases hρ; exact hjb rfl
      · rw [List.getElem?_set_ne (Ne.symm e)] at hi
        exact hE (.inr ⟨i, o2, hi, hm2, hρ⟩)⟩
  var i T cs hi := by
    by_cases e : i = k
    · subst e
      rw [hk] at hi; cases hi
      have hlt := lt_of_get hk
      cases o' with
      | row => exact hkind.elim
      | var T' cs' => simp only at hkind; subst hkind; exact ⟨cs', by rw [List.getElem?_set_self hlt], rfl⟩
    · exact ⟨cs, by rw [List.getElem?_set_ne (Ne.symm e)]; exact hi, rfl⟩
  row i m T sz xs hi := by
    by_cases e : i = k
    · subst e
      rw [hk] at hi; cases hi
      have hlt := lt_of_get hk
      cases o' with
      | var => exact hkind.elim
      | row m' T' sz' xs' =>
        simp only at hkind
        obtain ⟨rfl, rfl, h3, h4⟩ := hkind
        refine ⟨m', xs', by rw [List.getElem?_set_self hlt], h3, fun _ => ⟨rfl, fun c arr fz hc hh => ?_⟩⟩
        rw [hb] at hc; cases hc
        exact h4 arr fz hh
    · refine ⟨m, xs, by rw [List.getElem?_set_ne (Ne.symm e)]; exact hi, Nat.le_refl _, fun _ => ⟨rfl, fun c arr fz hc hh => ⟨arr, fz, ?_, Nat.le_refl _⟩⟩⟩
      have : c ≠ b := fun e2 => hinj i e (lt_of_get hi) (e2 ▸ hc)
      exact (hwr.oth c this).trans hh

theorem MemOk.set {X O : Nat → Prop} {w0 : World} {M : List MO} {ρ : Nat → Option Nat} {w w' : World} (h : MemOk X O w0 M ρ w) (k b : Nat) (o o' : MO) (hk : M[k]? = some o) (hb : ρ k = some b)
    (hwr : Wrote w w' b) (hev : Evo M (M.set k o') ρ ρ (excl X M ρ) (excl X (M.set k o') ρ) w w')
    (ho : ObjRep (M.set k o') ρ (excl X (M.set k o') ρ) w' k o') : MemOk X O w0 (M.set k o') ρ w' := by
  have hlt := lt_of_get hk
  refine h.change k hev ⟨by simp, fun j o2 hj ho2 => ?_⟩ (fun o2 ho2 => ?_) (fun x hx _ => ?_) (hwr.keep h.keep (h.own k b hlt hb).2) (by rw [hwr.size]; exact Nat.le_refl _)
  · rw [List.getElem?_set_ne (Ne.symm hj)] at ho2
    refine ⟨ho2, rfl, fun c hc => hwr.oth c (fun e => ?_)⟩
    subst e; exact hj (h.inj j k c (lt_of_get ho2) hlt hc hb)
  · rw [List.getElem?_set_self hlt] at ho2; cases ho2; exact ho
  · rw [hb] at hx; cases hx
    refine ⟨fun j hj hjM e => hj (h.inj j k b (by simpa using hjM) hlt e hb), h.own k b hlt hb⟩

theorem MemOk.other {X O : Nat → Prop} {w0 : World} {M : List MO} {ρ : Nat → Option Nat} {w : World} (h : MemOk X O w0 M ρ w) {k b : Nat} (hk : k < M.length) (hb : ρ k = some b) :
    ∀ j, j ≠ k → j < M.length → ρ j ≠ some b := fun j hj hjM e => hj (h.inj j k b hjM hk e hb)

/-- A row moves to a new block (or gets its first one). -/
theorem Evo.moved {X : Nat → Prop} {M : List MO} {ρ : Nat → Option Nat} {w w' : World} (k : Nat) (T : TypeId) (sz : Nat) (xs xs' : List IV) (x : Obj) (hk : M[k]? = some (.row true T sz xs)) (hl : xs.length < xs'.length)
    (hn : News w w' x) :
    Evo M (M.set k (.row true T sz xs')) ρ (updρ ρ k (some w.heap.size)) (excl X M ρ) (excl X (M.set k (.row true T sz xs')) (updρ ρ k (some w.heap.size))) w w' where
  stay := ⟨by rw [hn.size]; omega, fun j hj hE => ⟨hn.old hj, by
    rintro (hX | ⟨i, o2, hi, hm2, hρ⟩)
    · exact hE (.inl hX)
    · by_cases e : i = k
      · subst e; rw [updρ_same] at hρ; cases hρ; omega
      · rw [List.getElem?_set_ne (Ne.symm e)] at hi
        rw [updρ_ne _ _ e] at hρ
        exact hE (.inr ⟨i, o2, hi, hm2, hρ⟩)⟩⟩
  var i T' cs hi := by
    have e : i ≠ k := fun e => by subst e; rw [hk] at hi; cases hi
    exact ⟨cs, by rw [List.getElem?_set_ne (Ne.symm e)]; exact hi, updρ_ne _ _ e⟩
  row i m T' sz' ys hi := by
    by_cases e : i = k
    · subst e
      rw [hk] at hi; cases hi
      exact ⟨true, xs', by rw [List.getElem?_set_self (lt_of_get hk)], Nat.le_of_lt hl, fun e => absurd e (by omega)⟩
    · refine ⟨m, ys, by rw [List.getElem?_set_ne (Ne.symm e)]; exact hi, Nat.le_refl _, fun _ => ⟨updρ_ne _ _ e, fun c arr fz hc hh => ⟨arr, fz, ?_, Nat.le_refl _⟩⟩⟩
      have : c < w.heap.size := (Array.getElem?_eq_some_iff.1 hh).1
      exact (hn.old this).trans hh

theorem MemOk.moved {X O : Nat → Prop} {w0 : World} {M : List MO} {ρ : Nat → Option Nat} {w w' : World} (h : MemOk X O w0 M ρ w) (k : Nat) (T : TypeId) (sz : Nat) (xs xs' : List IV) (x : Obj) (hk : M[k]? = some (.row true T sz xs))
    (hl : xs.length < xs'.length) (hn : News w w' x)
    (ho : ObjRep (M.set k (.row true T sz xs')) (updρ ρ k (some w.heap.size)) (excl X (M.set k (.row true T sz xs')) (updρ ρ k (some w.heap.size))) w' k (.row true T sz xs')) :
    MemOk X O w0 (M.set k (.row true T sz xs')) (updρ ρ k (some w.heap.size)) w' := by
  have hlt := lt_of_get hk
  refine h.change k (Evo.moved k T sz xs xs' x hk hl hn) ⟨by simp, fun j o2 hj ho2 => ?_⟩ (fun o2 ho2 => ?_) (fun y hy _ => ?_) (hn.keep h.keep) (by rw [hn.size]; omega)
  · rw [List.getElem?_set_ne (Ne.symm hj)] at ho2
    exact ⟨ho2, updρ_ne _ _ hj, fun c hc => hn.old (h.lt (lt_of_get ho2) hc)⟩
  · rw [List.getElem?_set_self hlt] at ho2; cases ho2; exact ho
  · rw [updρ_same] at hy; cases hy
    refine ⟨fun j hj hjM e => ?_, fun hX => ?_, .inr h.keep.size⟩
    · rw [updρ_ne _ _ hj] at e
      have := h.lt (by simpa using hjM) e; omega
    · have := h.ext _ hX; omega

/-- A row is frozen: from now on it is read alone. -/
theorem Evo.freeze {X : Nat → Prop} {M : List MO} {ρ : Nat → Option Nat} {w : World} (k : Nat) (m : Bool) (T : TypeId) (sz : Nat) (xs : List IV) (hk : M[k]? = some (.row m T sz xs)) :
    Evo M (M.set k (.row false T sz xs)) ρ ρ (excl X M ρ) (excl X (M.set k (.row false T sz xs)) ρ) w w where
  stay := ⟨Nat.le_refl _, fun j hj hE => ⟨rfl, by
    rintro (hX | ⟨i, o2, hi, hm2, hρ⟩)
    · exact hE (.inl hX)
    · by_cases e : i = k
      · subst e; rw [List.getElem?_set_self (lt_of_get hk)] at hi; cases hi; cases hm2
      · rw [List.getElem?_set_ne (Ne.symm e)] at hi
        exact hE (.inr ⟨i, o2, hi, hm2, hρ⟩)⟩⟩
  var i T' cs hi := by
    have e : i ≠ k := fun e => by subst e; rw [hk] at hi; cases hi
    exact ⟨cs, by rw [List.getElem?_set_ne (Ne.symm e)]; exact hi, rfl⟩
  row i m' T' sz' ys hi := by
    by_cases e : i = k
    · subst e
      rw [hk] at hi; cases hi
      exact ⟨false, xs, by rw [List.getElem?_set_self (lt_of_get hk)], Nat.le_refl _, fun _ => ⟨rfl, fun c arr fz hc hh => ⟨arr, fz, hh, Nat.le_refl _⟩⟩⟩
    · exact ⟨m', ys, by rw [List.getElem?_set_ne (Ne.symm e)]; exact hi, Nat.le_refl _, fun _ => ⟨rfl, fun c arr fz hc hh => ⟨arr, fz, hh, Nat.le_refl _⟩⟩⟩

theorem MemOk.freeze {X O : Nat → Prop} {w0 : World} {M : List MO} {ρ : Nat → Option Nat} {w : World} (h : MemOk X O w0 M ρ w) (k : Nat) (m : Bool) (T : TypeId) (sz : Nat) (xs : List IV) (hk : M[k]? = some (.row m T sz xs)) :
    MemOk X O w0 (M.set k (.row false T sz xs)) ρ w := by
  have hlt := lt_of_get hk
  have hev := Evo.freeze (X := X) (ρ := ρ) (w := w) k m T sz xs hk
  refine h.change k hev ⟨by simp, fun j o2 hj ho2 => ?_⟩ (fun o2 ho2 => ?_) (fun y hy _ => ?_) h.keep (Nat.le_refl _)
  · rw [List.getElem?_set_ne (Ne.symm hj)] at ho2
    exact ⟨ho2, rfl, fun c hc => rfl⟩
  · rw [List.getElem?_set_self hlt] at ho2; cases ho2
    have h1 := (h.obj k _ hk).mono hev rfl (fun _ _ => rfl)
    exact h1
  · exact ⟨fun j hj hjM e => hj (h.inj j k y (by simpa using hjM) hlt e hy), h.own k y hlt hy⟩

/-- The world went on, and left all blocks that were there. -/
theorem Evo.world {M : List MO} {ρ : Nat → Option Nat} {E : Nat → Prop} {w w' : World} (hs : w.heap.size ≤ w'.heap.size) (hold : ∀ j, j < w.heap.size → w'.heap[j]? = w.heap[j]?) : Evo M M ρ ρ E E w w' where
  stay := ⟨hs, fun j hj hE => ⟨hold j hj, hE⟩⟩
  var k T cs hk := ⟨cs, hk, rfl⟩
  row k m T sz xs hk := ⟨m, xs, hk, Nat.le_refl _, fun _ => ⟨rfl, fun c arr fz hc hh => ⟨arr, fz, (hold c ((Array.getElem?_eq_some_iff.1 hh).1)).trans hh, Nat.le_refl _⟩⟩⟩

theorem MemOk.world {X O : Nat → Prop} {w0 : World} {M : List MO} {ρ : Nat → Option Nat} {w w' : World} (h : MemOk X O w0 M ρ w) (hk : Keep O w0 w')
    (hs : w.heap.size ≤ w'.heap.size) (hold : ∀ j, j < w.heap.size → w'.heap[j]? = w.heap[j]?) : MemOk X O w0 M ρ w' where
  obj j o hj := (h.obj j o hj).mono (Evo.world hs hold) rfl (fun b hb => hold b (h.lt (lt_of_get hj) hb))
  inj := h.inj
  own := h.own
  keep := hk
  ext b hb := Nat.lt_of_lt_of_le (h.ext b hb) hs

end Go.Proofs.Ytebegdnebjjnmaa.AM
