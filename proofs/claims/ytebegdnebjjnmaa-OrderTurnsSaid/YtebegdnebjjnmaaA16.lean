
/- The abstract machine, 16: weaker states (other names, new empty rows, frozen rows), and from a body to a call with memory. No condition. -/
import Derived.Test.YtebegdnebjjnmaaA15
set_option linter.unusedVariables false
set_option linter.unusedSimpArgs false
namespace Go.Proofs.Ytebegdnebjjnmaa.AM
open Go Go.RowKit

/-! ### slots by a list -/
def sl : List (Nat × AV) → Nat → AV
  | [] => fun _ => .any
  | p :: L => upd (sl L) p.1 p.2
def SlOk (t : Nat → AV) (σ : Nat → Nat) : List (Nat × AV) → Prop
  | [] => True
  | p :: L => t p.1 = ren σ p.2 ∧ SlOk t σ L
theorem SlOk.get {t : Nat → AV} {σ : Nat → Nat} : ∀ {L : List (Nat × AV)}, SlOk t σ L → ∀ i, sl L i = .any ∨ t i = ren σ (sl L i)
  | [], _, i => .inl rfl
  | p :: L, h, i => by
    by_cases e : i = p.1
    · subst e; right; rw [sl, upd_same]; exact h.1
    · rw [sl, upd_ne _ _ e]; exact SlOk.get h.2 i

theorem ren_id {n : Nat} {σ : Nat → Nat} (hσ : ∀ i, i < n → σ i = i) {x : AV} (h : AV.Sc n x) : ren σ x = x := by
  have lst : ∀ cs : List AV, (∀ (i : Nat) (y : AV), cs[i]? = some y → ren σ y = y) → rens σ cs = cs := by
    intro cs h
    rw [rens_map]
    apply List.ext_getElem?
    intro i
    rw [List.getElem?_map]
    cases hc : cs[i]? with
    | none => rfl
    | some y => simp [h i y hc]
  induction h with
  | any => rfl
  | iv => rfl
  | nilsl => rfl
  | msl k off len m h => simp only [ren, hσ k h]
  | mp k off h => simp only [ren, hσ k h]
  | rp k m i c h => simp only [ren, hσ k h]
  | ip => rfl
  | agg cs h ih => simp only [ren, lst cs ih]
  | tup cs h ih => simp only [ren, lst cs ih]
  | fn f cs h ih => simp only [ren, lst cs ih]

/-- Names l begin with those that the caller knows. -/
def idl (l : List Nat) : Nat → Prop
  | 0 => True
  | n + 1 => l[n]? = some n ∧ idl l n
theorem idl_spec {l : List Nat} : ∀ {n : Nat}, idl l n → ∀ i, i < n → l[i]? = some i
  | 0, _, i, h => by omega
  | n + 1, h, i, hi => by
    by_cases e : i = n
    · subst e; exact h.1
    · exact idl_spec h.2 i (by omega)

def PartR (M : List MO) (σ : Nat → Nat) : List Nat → List MO → Prop
  | [], [] => True
  | j :: l, o :: os => M[j]? = some (renMO σ o) ∧ PartR M σ l os
  | _, _ => False
theorem PartR.get {M : List MO} {σ : Nat → Nat} : ∀ {l : List Nat} {Ml : List MO}, PartR M σ l Ml → Ml.length = l.length ∧ ∀ (i j : Nat) (o : MO), l[i]? = some j → Ml[i]? = some o → M[j]? = some (renMO σ o)
  | [], [], _ => ⟨rfl, by simp⟩
  | j :: l, o :: os, h => by
    obtain ⟨h1, h2⟩ := PartR.get h.2
    refine ⟨by simp [h1], fun i j' o' hi ho => ?_⟩
    cases i with
    | zero => simp at hi ho; subst hi ho; exact h.1
    | succ i => exact h2 i j' o' (by simpa using hi) (by simpa using ho)
  | [], _ :: _, h => h.elim
  | _ :: _, [], h => h.elim
def ndR : List Nat → Bool
  | [] => true
  | j :: l => l.all (fun i => i != j) && ndR l
theorem ndR_nd : ∀ {l : List Nat}, ndR l = true → l.Nodup
  | [], _ => List.nodup_nil
  | j :: l, h => by
    simp only [ndR, Bool.and_eq_true, List.all_eq_true] at h
    exact List.nodup_cons.2 ⟨fun hm => by have := h.1 j hm; simp at this, ndR_nd h.2⟩
theorem Part.ofR {M Ml : List MO} {l : List Nat} (hn : ndR l = true) (h : PartR M (sg l M.length) l Ml) : Part M l Ml := ⟨ndR_nd hn, h.get.1, h.get.2⟩

section
variable {P : Program} {s : St}

/-- Some objects and slots only, by new names. -/
theorem wk_sel (l : List Nat) (Ml : List MO) (t' : Nat → AV) (hp : Part s.M l Ml) (hb : ∀ i, i < s.b → l[i]? = some i) (ht : ∀ i, t' i = .any ∨ s.t i = ren (sg l s.M.length) (t' i)) : Wk s ⟨s.n, t', Ml, s.b⟩ := by
  refine ⟨rfl, fun X O w0 F ρ a w hs => ⟨partρ ρ l, ?_⟩⟩
  obtain ⟨hm, hE⟩ := hs.mem.sel hp
  refine ⟨hs.size, hs.defers, fun i => ?_, hm, fun x u hx => ?_⟩
  · show RepA Ml (partρ ρ l) (excl X Ml (partρ ρ l)) w (t' i) (a.tmps.getD i undef)
    rcases ht i with h | h
    · rw [h]; exact .any _
    · exact ((hs.tm i).part hp (t' i) h).mono (Evo.weak hE)
  · obtain ⟨h1, h2⟩ := hs.fr x u hx
    have hid : ren (sg l s.M.length) x = x := ren_id (fun i hi => by simp [sg, hb i hi]) h1
    exact ⟨h1, (h2.part hp x hid.symm).mono (Evo.weak hE)⟩

theorem wk_frz {M' : List MO} {n b i : Nat} {t : Nat → AV} {M : List MO} {y : IV} (h : toIVF M (t i) = some (y, M')) : Wk ⟨n, t, M, b⟩ ⟨n, upd t i (.iv y), M', b⟩ := by
  refine ⟨rfl, fun X O w0 F ρ a w hs => ⟨ρ, ?_⟩⟩
  obtain ⟨hf, hy, _⟩ := toIVF_sound hs.mem (hs.tm i) h
  refine ⟨hs.size, hs.defers, fun j => ?_, hf.1, fun x u hx => ⟨(hs.fr x u hx).1, (hs.fr x u hx).2.mono hf.2.1⟩⟩
  show RepA M' ρ (excl X M' ρ) w (upd t i (.iv y) j) (a.tmps.getD j undef)
  by_cases e : j = i
  · subst e; rw [upd_same]; exact .iv _ _ hy
  · rw [upd_ne _ _ e]; exact (hs.tm j).mono hf.2.1

theorem nilrow_ok {X O : Nat → Prop} {w0 : World} {M : List MO} {ρ : Nat → Option Nat} {w : World} (hm : MemOk X O w0 M ρ w) (T sz : Nat) :
    MemOk X O w0 (M ++ [MO.row true T sz []]) (updρ ρ M.length none) w ∧ Evo M (M ++ [MO.row true T sz []]) ρ (updρ ρ M.length none) (excl X M ρ) (excl X (M ++ [MO.row true T sz []]) (updρ ρ M.length none)) w w ∧
      ∀ (E : Nat → Prop) (A : Option Addr), RepA (M ++ [MO.row true T sz []]) (updρ ρ M.length none) E w (.msl M.length 0 0 0) (.slice A 0 0) := by
  have hev := Evo.push (X := X) (M := M) (ρ := ρ) (w := w) (w' := w) (MO.row true T sz []) none (Nat.le_refl _) (fun j hj => rfl) (fun x hx => by cases hx)
  have hobj : ObjRep (M ++ [MO.row true T sz []]) (updρ ρ M.length none) (excl X (M ++ [MO.row true T sz []]) (updρ ρ M.length none)) w M.length (.row true T sz []) := by
    refine ⟨by simp, ?_⟩
    rw [updρ_same]
  refine ⟨hm.push _ _ hm.keep (Nat.le_refl _) (fun j hj => rfl) (fun x hx => by cases hx) hobj, hev, fun E A => .msl _ _ _ _ _ true T sz [] (by simp) (Nat.le_refl _) ⟨_, _, _, rfl⟩ (fun _ => ⟨by omega, A, 0, rfl, by omega, ?_⟩)⟩
  rw [updρ_same]; exact ⟨rfl, rfl⟩

/-- A nil slice is an empty row of one's own. -/
theorem wk_own (T sz : Nat) {n b i : Nat} {t : Nat → AV} {M : List MO} (h : t i = .nilsl) : Wk ⟨n, t, M, b⟩ ⟨n, upd t i (.msl M.length 0 0 0), M ++ [MO.row true T sz []], b⟩ := by
  refine ⟨rfl, fun X O w0 F ρ a w hs => ⟨updρ ρ M.length none, ?_⟩⟩
  obtain ⟨h1, h2, h3⟩ := nilrow_ok hs.mem T sz
  refine ⟨hs.size, hs.defers, fun j => ?_, h1, fun x u hx => ⟨(hs.fr x u hx).1, (hs.fr x u hx).2.mono h2⟩⟩
  show RepA _ _ _ w (upd t i (.msl M.length 0 0 0) j) (a.tmps.getD j undef)
  by_cases e : j = i
  · subst e
    rw [upd_same]
    have := hs.tm j
    rw [show St.t ⟨n, t, M, b⟩ j = .nilsl from h] at this
    obtain ⟨A, hA⟩ := inv_nilsl this
    rw [hA]; exact h3 _ A
  · rw [upd_ne _ _ e]; exact (hs.tm j).mono h2

/-- The same, of a variable's cell. -/
theorem wk_ownc (T sz k j : Nat) {n b : Nat} {t : Nat → AV} {M : List MO} {T' : TypeId} {cs : List AV} (hk : M[k]? = some (.var T' cs)) (h : cs[j]? = some .nilsl) :
    Wk ⟨n, t, M, b⟩ ⟨n, t, (M ++ [MO.row true T sz []]).set k (.var T' (cs.set j (.msl M.length 0 0 0))), b⟩ := by
  refine ⟨rfl, fun X O w0 F ρ a w hs => ⟨updρ ρ M.length none, ?_⟩⟩
  obtain ⟨h1, h2, h3⟩ := nilrow_ok hs.mem T sz
  have hk' : (M ++ [MO.row true T sz []])[k]? = some (.var T' cs) := get_append_old hk
  obtain ⟨bl, arr, fz, g1, g2, g3, g4, g5⟩ := h1.obj k _ hk'
  have hev := Evo.set (X := X) (w := w) (w' := w) k bl _ (.var T' (cs.set j (.msl M.length 0 0 0))) hk' g1 rfl (Wrote.refl _ _) rfl (h1.other (lt_of_get hk') g1)
  have hm : MemOk X O w0 ((M ++ [MO.row true T sz []]).set k (.var T' (cs.set j (.msl M.length 0 0 0)))) (updρ ρ M.length none) w := by
    refine h1.set k bl _ _ hk' g1 (Wrote.refl _ _) hev ⟨bl, arr, fz, g1, g2, g3, by simpa using g4, fun i y u hy hu => ?_⟩
    by_cases e : i = j
    · subst e
      rw [List.getElem?_set_self (lt_of_get h)] at hy
      cases hy
      have := g5 i _ u h hu
      obtain ⟨A, hA⟩ := inv_nilsl this
      rw [hA]
      exact (h3 _ A).mono hev
    · rw [List.getElem?_set_ne (Ne.symm e)] at hy
      exact (g5 i y u hy hu).mono hev
  exact ⟨hs.size, hs.defers, fun i => ((hs.tm i).mono h2).mono hev, hm, fun x u hx => ⟨(hs.fr x u hx).1, ((hs.fr x u hx).2.mono h2).mono hev⟩⟩

end

/-- States by lists. -/
theorem wk_to {s : St} (l : List Nat) (L : List (Nat × AV)) (Ml : List MO) (hn : ndR l = true) (hb : idl l s.b) (hp : PartR s.M (sg l s.M.length) l Ml) (ht : SlOk s.t (sg l s.M.length) L) : Wk s ⟨s.n, sl L, Ml, s.b⟩ :=
  wk_sel l Ml (sl L) (Part.ofR hn hp) (idl_spec hb) ht.get
def WkTo (l : List Nat) (s s' : St) (L : List (Nat × AV)) (Ml : List MO) : Prop := s' = ⟨s.n, sl L, Ml, s.b⟩ ∧ ndR l = true ∧ idl l s.b ∧ PartR s.M (sg l s.M.length) l Ml ∧ SlOk s.t (sg l s.M.length) L
theorem wk_by (l : List Nat) {n n' b b' : Nat} {t : Nat → AV} {M Ml : List MO} {L : List (Nat × AV)} (h : n' = n ∧ b' = b ∧ ndR l = true ∧ idl l b ∧ PartR M (sg l M.length) l Ml ∧ SlOk t (sg l M.length) L) : Wk ⟨n, t, M, b⟩ ⟨n', sl L, Ml, b'⟩ := by
  obtain ⟨rfl, rfl, h1, h2, h3, h4⟩ := h
  exact wk_to (s := ⟨_, t, M, _⟩) l L Ml h1 h2 h3 h4

/-! ### the end of a function that has memory -/
def argsA : List AV → Nat → Nat → AV
  | [], _ => fun _ => .any
  | x :: l, k => upd (argsA l (k + 1)) k x
theorem argsA_get : ∀ (l : List AV) (k i : Nat), argsA l k i = if k ≤ i then (match l[i - k]? with | some x => x | none => .any) else .any
  | [], k, i => by simp [argsA]
  | x :: l, k, i => by
    simp only [argsA]
    by_cases e : i = k
    · subst e; rw [upd_same]; simp
    · rw [upd_ne _ _ e, argsA_get l (k + 1) i]
      by_cases h : k ≤ i
      · rw [if_pos (by omega), if_pos h, show i - k = (i - (k + 1)) + 1 from by omega, List.getElem?_cons_succ]
      · rw [if_neg (by omega), if_neg h]
def sv (l : List AV) (i : Nat) : AV := l.getD i .any
def oneA : List AV → AV
  | [y] => y
  | ys => .tup ys
/-- The results, and what is left of the memory. -/
def fin0 (P : Program) (rs : List ResultVar) (r : AV) (M' : List MO) (s : St) : Prop :=
  ∃ avs ys, resAVs P s rs = some avs ∧ ys.length = avs.length ∧ oneA ys = r ∧ Wk ⟨avs.length, sv avs, s.M, s.b⟩ ⟨avs.length, sv ys, M', s.b⟩
def finM (P : Program) (rs : List ResultVar) (r : AV) (M' : List MO) (s : St) : Prop := ∃ s1, Wk s s1 ∧ fin0 P rs r M' s1
def postM (P : Program) (rs : List ResultVar) (r : AV) (M' : List MO) : Exit → St → Prop
  | .normal, s => finM P rs r M' s
  | .ret, s => finM P rs r M' s
  | _, _ => False

def unone (n : Nat) (r : AV) : List AV := if n = 1 then [r] else match r with
  | .tup ys => ys
  | _ => []
/-- The end, the results as they are. -/
theorem fin_keep {P : Program} {rs : List ResultVar} {r : AV} {M' : List MO} {s : St} (l : List Nat) {avs : List AV} (h1 : resAVs P s rs = some avs) (h : avs = rens (sg l s.M.length) (unone avs.length r) ∧ oneA (unone avs.length r) = r ∧
    ndR l = true ∧ idl l s.b ∧ PartR s.M (sg l s.M.length) l M') : fin0 P rs r M' s := by
  obtain ⟨ha, hr, hn, hb, hp⟩ := h
  have hlen : (unone avs.length r).length = avs.length := by conv => rhs; rw [ha, rens_len]
  refine ⟨avs, unone avs.length r, h1, hlen, hr, ?_⟩
  refine wk_sel (s := ⟨avs.length, sv avs, s.M, s.b⟩) l M' _ (Part.ofR hn hp) (idl_spec hb) (fun i => ?_)
  show sv (unone avs.length r) i = .any ∨ sv avs i = ren (sg l s.M.length) (sv (unone avs.length r) i)
  by_cases hi : i < avs.length
  · right
    have e1 : avs[i]? = some (sv avs i) := by simp [sv, hi]
    have e2 : (unone avs.length r)[i]? = some (sv (unone avs.length r) i) := by simp [sv, hlen, hi]
    have : (rens (sg l s.M.length) (unone avs.length r))[i]? = avs[i]? := congrArg (fun x => x[i]?) ha.symm
    rw [rens_get, e1, e2] at this
    exact (Option.some.inj this).symm
  · left
    simp [sv, List.getElem?_eq_none (show (unone avs.length r).length ≤ i by omega)]

/-- The end, the results frozen. -/
theorem fin_frz {P : Program} {rs : List ResultVar} {r : AV} {M' : List MO} {s : St} (l : List Nat) {avs : List AV} {ys : List IV} {M1 : List MO} (h1 : resAVs P s rs = some avs) (h2 : argsF s.M avs = some (ys, M1))
    (h : oneA (ys.map .iv) = r ∧ ndR l = true ∧ idl l s.b ∧ PartR M1 (sg l M1.length) l M') : fin0 P rs r M' s := by
  obtain ⟨hr, hn, hb, hp⟩ := h
  have hlen : ys.length = avs.length := by
    have key : ∀ (l : List AV) {M M' : List MO} {ys : List IV}, argsF M l = some (ys, M') → ys.length = l.length := by
      intro l
      induction l with
      | nil => intro M M' ys h; simp [argsF] at h; rw [h.1]; rfl
      | cons x l ih =>
        intro M M' ys h
        simp only [argsF] at h
        obtain ⟨⟨y, Ma⟩, _, h⟩ := option_bind_some h
        obtain ⟨⟨ys', Mb⟩, h2, h⟩ := option_map_some h
        cases h; simp [ih h2]
    exact key avs h2
  refine ⟨avs, ys.map .iv, h1, by simp [hlen], hr, ?_⟩
  have hwk1 : Wk ⟨avs.length, sv avs, s.M, s.b⟩ ⟨avs.length, sv (ys.map .iv), M1, s.b⟩ := by
    refine ⟨rfl, fun X O w0 F ρ a w hs => ⟨ρ, ?_⟩⟩
    have hsz : a.tmps.size = avs.length := hs.size
    obtain ⟨hf, _, hy⟩ := argsF_sound avs hs.mem a.tmps.toList (by simpa using hsz) (fun i x v hx hv => by
      have := hs.tm i
      rw [show St.t ⟨avs.length, sv avs, s.M, s.b⟩ i = x from by simp [sv, hx], show a.tmps.getD i undef = v from by rw [Array.getD_eq_getD_getElem?, ← Array.getElem?_toList, hv]; rfl] at this
      exact this) h2
    refine ⟨hs.size, hs.defers, fun i => ?_, hf.1, fun x u hx => ⟨(hs.fr x u hx).1, (hs.fr x u hx).2.mono hf.2.1⟩⟩
    show RepA M1 ρ (excl X M1 ρ) w (sv (ys.map .iv) i) (a.tmps.getD i undef)
    by_cases hi : i < ys.length
    · have e1 : ys[i]? = some (ys[i]) := List.getElem?_eq_getElem hi
      have e2 : a.tmps[i]? = some (a.tmps[i]'(by omega)) := Array.getElem?_eq_getElem (by omega)
      rw [show sv (ys.map .iv) i = .iv ys[i] from by simp [sv, hi], show a.tmps.getD i undef = a.tmps[i]'(by omega) from by rw [Array.getD_eq_getD_getElem?, e2]; rfl]
      exact .iv _ _ (hy i _ _ e1 (by rw [Array.getElem?_toList, e2]))
    · rw [show sv (ys.map .iv) i = .any from by simp [sv, List.getElem?_eq_none (show ys.length ≤ i by omega)]]
      exact .any _
  refine hwk1.trans (wk_sel (s := ⟨avs.length, sv (ys.map .iv), M1, s.b⟩) l M' _ (Part.ofR hn hp) (idl_spec hb) (fun i => ?_))
  show sv (ys.map .iv) i = .any ∨ sv (ys.map .iv) i = ren (sg l M1.length) (sv (ys.map .iv) i)
  right
  simp only [sv, List.getD_eq_getElem?_getD, List.getElem?_map]
  cases ys[i]? <;> rfl

/-- A weaker state first. -/
theorem fin_wk {P : Program} {rs : List ResultVar} {r : AV} {M' : List MO} {s s1 : St} (hw : Wk s s1) (h : finM P rs r M' s1) : finM P rs r M' s := by
  obtain ⟨s2, h1, h2⟩ := h
  exact ⟨s2, hw.trans h1, h2⟩
def optK {α : Type} (o : Option α) (f : α → Prop) : Prop := match o with
  | some a => f a
  | none => False
def finKeep (P : Program) (rs : List ResultVar) (r : AV) (M' : List MO) (l : List Nat) (s : St) : Prop := optK (resAVs P s rs) fun avs => avs = rens (sg l s.M.length) (unone avs.length r) ∧ oneA (unone avs.length r) = r ∧
    ndR l = true ∧ idl l s.b ∧ PartR s.M (sg l s.M.length) l M'
theorem fin_k {P : Program} {rs : List ResultVar} {r : AV} {M' : List MO} {s : St} (l : List Nat) (h : finKeep P rs r M' l s) : finM P rs r M' s := by
  unfold finKeep optK at h
  split at h
  · rename_i avs ha
    exact ⟨s, Wk.refl s, fin_keep l ha h⟩
  · exact h.elim
def finFrz (P : Program) (rs : List ResultVar) (r : AV) (M' : List MO) (l : List Nat) (s : St) : Prop := optK (resAVs P s rs) fun avs => optK (argsF s.M avs) fun q => oneA (q.1.map .iv) = r ∧ ndR l = true ∧ idl l s.b ∧ PartR q.2 (sg l q.2.length) l M'
theorem fin_f {P : Program} {rs : List ResultVar} {r : AV} {M' : List MO} {s : St} (l : List Nat) (h : finFrz P rs r M' l s) : finM P rs r M' s := by
  unfold finFrz optK at h
  split at h
  · rename_i avs ha
    split at h
    · rename_i q hq
      exact ⟨s, Wk.refl s, fin_frz l ha hq h⟩
    · exact h.elim
  · exact h.elim

/-- A body that ends in r and M', as a call. -/
theorem MCalls.of_aw {P : Program} {f : Nat} {fn : Func} {c : Code} {args : List AV} {M M' : List MO} {r : AV} (hf : P.funcs[f]? = some fn) (hb : fn.body = some c) (hc : Callable P f) (hn : bnd fn.ntmps c = true) (hl : args.length ≤ fn.ntmps)
    (hlen : M.length ≤ M'.length) (h : aw P c (postM P fn.results.toList r M') ⟨fn.ntmps, argsA args 0, M, M.length⟩) : MCalls P f args M r M' := by
  refine ⟨hc, hlen, fun X w ρ vs hm hvl hargs => ?_⟩
  have hsim : Sim X (blocks M ρ) w (fun x u => RepA M ρ (excl X M ρ) w x u) ⟨fn.ntmps, argsA args 0, M, M.length⟩ ρ { tmps := vs.toArray ++ Array.replicate (fn.ntmps - vs.toArray.size) undef, defers := [] } w := {
    size := by simp; omega
    defers := rfl
    tm := by
      intro i
      show RepA M ρ (excl X M ρ) w (argsA args 0 i) _
      rw [argsA_get, if_pos (Nat.zero_le _), Nat.sub_zero]
      cases hx : args[i]? with
      | none => exact .any _
      | some x =>
        have hi := lt_of_get hx
        have hv : vs[i]? = some (vs[i]'(by omega)) := List.getElem?_eq_getElem (by omega)
        have h1 := hargs i x _ hx hv
        have h2 : (vs.toArray ++ Array.replicate (fn.ntmps - vs.toArray.size) undef).getD i undef = vs[i]'(by omega) := by
          rw [Array.getD_eq_getD_getElem?, Array.getElem?_append_left (by simp; omega)]
          simp [hv]
        rw [h2]
        exact h1
    mem := hm
    fr := fun x u hx => ⟨hx.sc, hx⟩ }
  refine calls_of_wp hf hb (wp_mono (h hn X (blocks M ρ) w _ _ _ w hsim) ?_)
  rintro e a' w' ⟨s', ρ', hn', hs', hq⟩
  have fin : finM P fn.results.toList r M' s' → a'.defers = [] ∧ ∃ v, (results fn a'.tmps).run P w' = .ok v w' ∧ ∃ v1 ρ', Ending.returned v = .returned v1 ∧ MemOk X (blocks M ρ) w M' ρ' w' ∧ RepA M' ρ' (excl X M' ρ') w' r v1 ∧ Keeps M M' ρ ρ' (excl X M ρ) (excl X M' ρ') w w' := by
    rintro ⟨s1, hw1, avs, ys, hr1, hyl, hr, hwk⟩
    obtain ⟨ρ', hs'⟩ := hw1.2 _ _ _ _ _ _ _ hs'
    obtain ⟨us, hus, hl, hrs⟩ := run_ress hs' hr1
    have hs2 : Sim X (blocks M ρ) w (fun x u => RepA M ρ (excl X M ρ) w x u) ⟨avs.length, sv avs, s1.M, s1.b⟩ ρ' { tmps := us.toArray, defers := [] } w' := {
      size := by simp [hl]
      defers := rfl
      tm := by
        intro i
        show RepA s1.M ρ' (excl X s1.M ρ') w' (sv avs i) (us.toArray.getD i undef)
        by_cases hi : i < avs.length
        · have e1 : avs[i]? = some (avs[i]) := List.getElem?_eq_getElem hi
          have e2 : us[i]? = some (us[i]'(by omega)) := List.getElem?_eq_getElem (by omega)
          rw [show sv avs i = avs[i] from by simp [sv, hi], show us.toArray.getD i undef = us[i]'(by omega) from by rw [Array.getD_eq_getD_getElem?, List.getElem?_toArray, e2]; rfl]
          exact hrs i _ _ e1 e2
        · rw [show sv avs i = .any from by simp [sv, List.getElem?_eq_none (show avs.length ≤ i by omega)]]
          exact .any _
      mem := hs'.mem
      fr := hs'.fr }
    obtain ⟨ρ2, hs3⟩ := hwk.2 _ _ _ _ _ _ _ hs2
    have hmem : MemOk X (blocks M ρ) w M' ρ2 w' := hs3.mem
    have hfr : Keeps M M' ρ ρ2 (excl X M ρ) (excl X M' ρ2) w w' := fun x u hx => (hs3.fr x u hx).2
    have htm : ∀ (i : Nat) (y : AV) (v : Value), ys[i]? = some y → us[i]? = some v → RepA M' ρ2 (excl X M' ρ2) w' y v := by
      intro i y v hy hv
      have := hs3.tm i
      rw [show St.t ⟨avs.length, sv ys, M', s1.b⟩ i = y from by simp [sv, hy], show us.toArray.getD i undef = v from by rw [Array.getD_eq_getD_getElem?, List.getElem?_toArray, hv]; rfl] at this
      exact this
    have hrun : (fn.results.mapM (fun r => match r with | .tmp t => pure (a'.tmps.getD t undef) | .cell p t => do loadVar t (← asAddr (a'.tmps.getD p undef)) : ResultVar → Sem Value)).run P w' = .ok us.toArray w' := by
      have hus' : (fn.results.toList.mapM (fun r => match r with | .tmp t => pure (a'.tmps.getD t undef) | .cell p t => do loadVar t (← asAddr (a'.tmps.getD p undef)) : ResultVar → Sem Value)).run P w' = .ok us w' := hus
      rw [Array.mapM_eq_mapM_toList, Sem.run_map, hus']; rfl
    refine ⟨hs'.defers, if h : us.toArray.size = 1 then us.toArray[0] else .tuple us.toArray, ?_, _, ρ2, rfl, hmem, ?_, hfr⟩
    · unfold results
      rw [Sem.run_bind]
      refine (congrArg (fun r => Result.andThen r _) (Eq.trans (congrArg (fun (f : ResultVar → Sem Value) => Sem.run P (Array.mapM f fn.results) w') (funext fun r => ?_)) hrun)).trans rfl
      cases r <;> rfl
    · subst hr
      match ys, us, hl, hyl, htm with
      | [], us, hl, hl2, hX =>
        have : us = [] := List.eq_nil_of_length_eq_zero (by simp at hl2; omega)
        subst this
        exact .tup [] #[] rfl (by simp)
      | [y], us, hl, hl2, hX =>
        obtain ⟨u, rfl⟩ : ∃ u, us = [u] := by
          cases us with
          | nil => simp at hl hl2; omega
          | cons u l => cases l with
            | nil => exact ⟨u, rfl⟩
            | cons => simp at hl hl2; omega
        exact hX 0 y u rfl rfl
      | y :: y' :: l, us, hl, hl2, hX =>
        have hne : ¬ us.toArray.size = 1 := by simp at hl2 ⊢; omega
        rw [dif_neg hne]
        exact .tup _ _ (by simp at hl2 ⊢; omega) (fun i x v h3 h4 => hX i x v h3 (by simpa using h4))
  cases e with
  | normal => exact fin hq
  | ret => exact fin hq
  | exit i => exact hq.elim
  | goto i => exact hq.elim
  | panic c => exact hq.elim
  | outgrown => exact hq.elim

/-! ### rules -/
section
variable {P : Program}
attribute [go_sem] oneA postM unone idl PartR ndR SlOk argsA finKeep finFrz List.length_append List.length_set List.length_replicate List.length_take
@[go_sem] theorem optK_some {α : Type} (a : α) (f : α → Prop) : optK (some a) f = f a := rfl
@[go_sem] theorem optK_none {α : Type} (f : α → Prop) : optK none f = False := rfl
@[go_sem] theorem sl_nil (i : Nat) : sl [] i = .any := rfl
@[go_sem] theorem sl_cons (a : Nat) (v : AV) (L : List (Nat × AV)) (i : Nat) : sl ((a, v) :: L) i = if i = a then v else sl L i := by
  by_cases h : i = a
  · subst h; simp [sl, upd_same]
  · simp [sl, upd_ne _ _ h, h]
@[go_sem] theorem ren_any (σ : Nat → Nat) : ren σ .any = .any := rfl
@[go_sem] theorem ren_iv (σ : Nat → Nat) (x : IV) : ren σ (.iv x) = .iv x := rfl
@[go_sem] theorem ren_nilsl (σ : Nat → Nat) : ren σ .nilsl = .nilsl := rfl
@[go_sem] theorem ren_msl (σ : Nat → Nat) (k off len n : Nat) : ren σ (.msl k off len n) = .msl (σ k) off len n := rfl
@[go_sem] theorem ren_mp (σ : Nat → Nat) (k off : Nat) : ren σ (.mp k off) = .mp (σ k) off := rfl
@[go_sem] theorem ren_rp (σ : Nat → Nat) (k n i c : Nat) : ren σ (.rp k n i c) = .rp (σ k) n i c := rfl
@[go_sem] theorem ren_ip (σ : Nat → Nat) (sz : Nat) (xs : List IV) (i c : Nat) : ren σ (.ip sz xs i c) = .ip sz xs i c := rfl
@[go_sem] theorem ren_agg (σ : Nat → Nat) (cs : List AV) : ren σ (.agg cs) = .agg (rens σ cs) := rfl
@[go_sem] theorem ren_tup (σ : Nat → Nat) (cs : List AV) : ren σ (.tup cs) = .tup (rens σ cs) := rfl
@[go_sem] theorem ren_fn (σ : Nat → Nat) (f : Nat) (cs : List AV) : ren σ (.fn f cs) = .fn f (rens σ cs) := rfl
@[go_sem] theorem rens_nil (σ : Nat → Nat) : rens σ [] = [] := rfl
@[go_sem] theorem rens_cons (σ : Nat → Nat) (x : AV) (l : List AV) : rens σ (x :: l) = ren σ x :: rens σ l := rfl
@[go_sem] theorem renMO_row (σ : Nat → Nat) (m : Bool) (T : TypeId) (sz : Nat) (xs : List IV) : renMO σ (.row m T sz xs) = .row m T sz xs := rfl
@[go_sem] theorem renMO_var (σ : Nat → Nat) (T : TypeId) (cs : List AV) : renMO σ (.var T cs) = .var T (rens σ cs) := rfl
@[go_sem] theorem sg_nil (m i : Nat) : sg [] m i = m + i := by simp [sg]
@[go_sem] theorem sg_zero (j : Nat) (l : List Nat) (m : Nat) : sg (j :: l) m 0 = j := rfl
@[go_sem] theorem sg_one (j j' : Nat) (l : List Nat) (m : Nat) : sg (j :: j' :: l) m 1 = j' := rfl
@[go_sem] theorem sg_two (j j' j2 : Nat) (l : List Nat) (m : Nat) : sg (j :: j' :: j2 :: l) m 2 = j2 := rfl
@[go_sem] theorem sg_three (j j' j2 j3 : Nat) (l : List Nat) (m : Nat) : sg (j :: j' :: j2 :: j3 :: l) m 3 = j3 := rfl
@[go_sem] theorem sg_four (j j' j2 j3 j4 : Nat) (l : List Nat) (m : Nat) : sg (j :: j' :: j2 :: j3 :: j4 :: l) m 4 = j4 := rfl
@[go_sem] theorem sg_new1 (j m i : Nat) : sg [j] m (i + 1) = m + i := by simp [sg]
@[go_sem] theorem sg_new2 (j j' m i : Nat) : sg [j, j'] m (i + 2) = m + i := by simp [sg]
@[go_sem] theorem sg_new3 (j j' j2 m i : Nat) : sg [j, j', j2] m (i + 3) = m + i := by simp [sg]
@[go_sem] theorem sg_new4 (j j' j2 j3 m i : Nat) : sg [j, j', j2, j3] m (i + 4) = m + i := by simp [sg]
attribute [go_sem] backM setAll calleeOf
end

/-! ### a call with memory, from here -/
section
variable {P : Program} {ops : List Oper} {Q : St → Prop} {s : St} {o : Oper} {rest : List Oper}
def callMK (o : Oper) (l : List Nat) (f : Nat) (xs : List AV) (Ml : List MO) (s : St) : Prop := match o.op with
  | .call c => match c.callee with
    | .value x => match calleeOf (s.ev x) with
      | some (g, caps) => g = f ∧ c.args.toList.map s.ev ++ caps = rens (sg l s.M.length) xs ∧ ndR l = true ∧ PartR s.M (sg l s.M.length) l Ml
      | none => False
    | _ => False
  | _ => False
theorem left_callMw {f : Nat} {xs : List AV} {Ml M' : List MO} {r : AV} (s1 : St) (l : List Nat) (h : MCalls P f xs Ml r M') (hw : Wk s s1) (hc : callMK o l f xs Ml s1)
    (hk : run P ops rest (fun s l => left P ops Q s l) ({ s1 with M := backM s1.M l M' }.put o.dst (ren (sg l s1.M.length) r))) : left P ops Q s (o :: rest) := by
  unfold callMK at hc
  split at hc
  · rename_i c ho
    split at hc
    · rename_i x hx
      split at hc
      · rename_i g caps hg
        obtain ⟨rfl, h1, h2, h3⟩ := hc
        exact left_callM l hw h ho hx hg h1 (Part.ofR h2 h3) hk
      · exact hc.elim
    · exact hc.elim
  · exact hc.elim
theorem left_callMs {f : Nat} {xs : List AV} {Ml M' : List MO} {r : AV} (l : List Nat) (h : MCalls P f xs Ml r M') (hc : callMK o l f xs Ml s)
    (hk : run P ops rest (fun s l => left P ops Q s l) ({ s with M := backM s.M l M' }.put o.dst (ren (sg l s.M.length) r))) : left P ops Q s (o :: rest) := left_callMw s l h (Wk.refl s) hc hk
end

/-! ### an empty row has no elements' size -/
def Sq (x y : IV) : Prop := ∀ (E : Nat → Prop) (w : World) (v : Value), RepI E w x v → RepI E w y v
theorem Sq.refl (x : IV) : Sq x x := fun _ _ _ h => h
theorem Sq.trans {x y z : IV} (h : Sq x y) (k : Sq y z) : Sq x z := fun E w v hv => k E w v (h E w v hv)
theorem Sq.of_eq {x y : IV} (h : x = y) : Sq x y := h ▸ Sq.refl x
theorem Sq.nil (a b : Nat) : Sq (.sl a []) (.sl b []) := by
  intro E w v h
  generalize hx : IV.sl a [] = x at h
  cases h <;> cases hx
  · exact .sl0 _ _ _
  · rename_i bl o c u hc hE hb hs hu hr
    exact .sl0 b _ _
def Sqs : List IV → List IV → Prop
  | [], [] => True
  | x :: l, y :: k => Sq x y ∧ Sqs l k
  | _, _ => False
theorem Sqs.get : ∀ {l k : List IV}, Sqs l k → l.length = k.length ∧ ∀ (i : Nat) (x y : IV), l[i]? = some x → k[i]? = some y → Sq x y
  | [], [], _ => ⟨rfl, by simp⟩
  | x :: l, y :: k, h => by
    obtain ⟨h1, h2⟩ := Sqs.get h.2
    refine ⟨by simp [h1], fun i x' y' hx hy => ?_⟩
    cases i with
    | zero => simp at hx hy; subst hx hy; exact h.1
    | succ i => exact h2 i x' y' (by simpa using hx) (by simpa using hy)
  | [], _ :: _, h => h.elim
  | _ :: _, [], h => h.elim
theorem Sq.agg {l k : List IV} (h : Sqs l k) : Sq (.agg l) (.agg k) := by
  intro E w v hv
  obtain ⟨vs, rfl, h1, h2⟩ := inv_rep_agg hv
  obtain ⟨h3, h4⟩ := h.get
  refine .agg _ _ (by omega) (fun i y z hy hz => ?_)
  have hi := lt_of_get hy
  have hx : l[i]? = some (l[i]'(by omega)) := List.getElem?_eq_getElem (by omega)
  exact h4 i _ y hx hy E w z (h2 i _ z hx hz)
theorem Sq.tup {l k : List IV} (h : Sqs l k) : Sq (.tup l) (.tup k) := by
  intro E w v hv
  obtain ⟨vs, rfl, h1, h2⟩ := inv_rep_tup hv
  obtain ⟨h3, h4⟩ := h.get
  refine .tup _ _ (by omega) (fun i y z hy hz => ?_)
  have hi := lt_of_get hy
  have hx : l[i]? = some (l[i]'(by omega)) := List.getElem?_eq_getElem (by omega)
  exact h4 i _ y hx hy E w z (h2 i _ z hx hz)
theorem PCalls.res {P : Program} {f : Nat} {args : List IV} {r r' : IV} (h : PCalls P f args r) (hr : Sq r r') : PCalls P f args r' :=
  ⟨h.1, fun w E vs h1 h2 h3 => (h.2 w E vs h1 h2 h3).mono (fun e w' ⟨v, a, b, c⟩ => ⟨v, a, hr _ _ _ b, c⟩)⟩
theorem PCalls.args {P : Program} {f : Nat} {args args' : List IV} {r : IV} (h : PCalls P f args r) (ha : Sqs args' args) : PCalls P f args' r := by
  obtain ⟨hl, hg⟩ := ha.get
  refine ⟨h.1, fun w E vs h1 h2 h3 => h.2 w E vs (by omega) (fun i x v hx hv => ?_) h3⟩
  have hi := lt_of_get hx
  have hy : args'[i]? = some (args'[i]'(by omega)) := List.getElem?_eq_getElem (by omega)
  exact hg i _ x hy hx _ _ _ (h2 i _ v hy hv)
/-- The end of a function, up to empty rows. -/
def postS (P : Program) (rs : List ResultVar) (r : IV) : Exit → St → Prop
  | .normal, s => ∃ r0, retV P rs s = some r0 ∧ Sq r0 r
  | .ret, s => ∃ r0, retV P rs s = some r0 ∧ Sq r0 r
  | _, _ => False
theorem PCalls.of_awS {P : Program} {f : Nat} {fn : Func} {c : Code} {args : List IV} {r : IV} (hf : P.funcs[f]? = some fn) (hb : fn.body = some c) (hc : Callable P f) (hn : bnd fn.ntmps c = true) (hl : args.length ≤ fn.ntmps)
    (h : aw P c (postS P fn.results.toList r) ⟨fn.ntmps, argsT args 0, [], 0⟩) : PCalls P f args r := by
  refine ⟨hc, fun w E vs hvl hargs hE => ?_⟩
  have hmem : MemOk E (fun _ => False) w [] (fun _ => none) w := {
    obj := by intro k o hk; simp at hk
    inj := by intro k k' b hk; simp at hk
    own := by intro k b hk; simp at hk
    keep := Keep.refl _ _
    ext := hE }
  have hsim : Sim E (fun _ => False) w (fun _ _ => False) ⟨fn.ntmps, argsT args 0, [], 0⟩ (fun _ => none) { tmps := vs.toArray ++ Array.replicate (fn.ntmps - vs.toArray.size) undef, defers := [] } w := {
    size := by simp; omega
    defers := rfl
    tm := by
      intro i
      show RepA [] (fun _ => none) (excl E [] fun _ => none) w (argsT args 0 i) _
      rw [argsT_get, if_pos (Nat.zero_le _), Nat.sub_zero]
      cases hx : args[i]? with
      | none => exact .any _
      | some x =>
        have hi := lt_of_get hx
        have hv : vs[i]? = some (vs[i]'(by omega)) := List.getElem?_eq_getElem (by omega)
        have h1 := hargs i x _ hx hv
        have h2 : (vs.toArray ++ Array.replicate (fn.ntmps - vs.toArray.size) undef).getD i undef = vs[i]'(by omega) := by
          rw [Array.getD_eq_getD_getElem?, Array.getElem?_append_left (by simp; omega)]
          simp [hv]
        rw [h2]
        exact .iv _ _ (h1.mono ⟨Nat.le_refl _, fun b _ hb => ⟨rfl, by
          rintro (hX | ⟨k, o, hk, _⟩)
          · exact hb hX
          · simp at hk⟩⟩)
    mem := hmem
    fr := fun _ _ h => h.elim }
  refine calls_of_wp hf hb (wp_mono (h hn E _ w _ _ _ w hsim) ?_)
  rintro e a' w' ⟨s', ρ', hn', hs', hq⟩
  have fin : (∃ r0, retV P fn.results.toList s' = some r0 ∧ Sq r0 r) → a'.defers = [] ∧ ∃ v, (results fn a'.tmps).run P w' = .ok v w' ∧ ∃ u, Ending.returned v = .returned u ∧ RepI E w' r u ∧ Below w.heap.size w w' := by
    rintro ⟨r0, hr, hsq⟩
    obtain ⟨v, h1, h2⟩ := retV_sound hs' hr
    exact ⟨hs'.defers, v, h1, v, rfl, hsq _ _ _ h2, hs'.mem.keep.below⟩
  cases e with
  | normal => exact fin hq
  | ret => exact fin hq
  | exit i => exact hq.elim
  | goto i => exact hq.elim
  | panic c => exact hq.elim
  | outgrown => exact hq.elim
attribute [go_sem] callMK postS Sqs
@[go_sem] theorem exists_some (x r : IV) : (∃ r0, some x = some r0 ∧ Sq r0 r) = Sq x r := by simp

/-! ### calls by a function's number -/
section
variable {P : Program} {ops : List Oper} {Q : St → Prop} {s : St} {o : Oper} {rest : List Oper} {f : Nat} {args : List Operand} {ts : Array TypeId} {ys : List IV} {r : IV} {M' : List MO}
theorem left_callf (ho : o.op = .call ⟨.value (.func f), args.toArray, ts⟩) (ha : ivs (args.map s.ev) = some ys) (h : PCalls P f ys r) (hk : run P ops rest (fun s l => left P ops Q s l) (s.put o.dst (.iv r))) : left P ops Q s (o :: rest) :=
  left_call ho rfl rfl ha h hk
theorem left_callfF (ho : o.op = .call ⟨.value (.func f), args.toArray, ts⟩) (ha : argsF s.M (args.map s.ev) = some (ys, M')) (h : PCalls P f ys r) (hk : run P ops rest (fun s l => left P ops Q s l) ({ s with M := M' }.put o.dst (.iv r))) : left P ops Q s (o :: rest) :=
  left_callF ho rfl rfl ha h hk
theorem left_callfB (ho : o.op = .call ⟨.value (.func f), args.toArray, ts⟩) (ha : argsF s.M (args.map s.ev) = some (ys, M')) (h : PCalls P f ys r) (hr : r.flat = true) (hk : run P ops rest (fun s l => left P ops Q s l) (s.put o.dst (.iv r))) : left P ops Q s (o :: rest) :=
  left_callB ho rfl rfl ha h hr hk
end

end Go.Proofs.Ytebegdnebjjnmaa.AM
