
/- The abstract machine, 12: every operation that it knows does in memory what it says. No condition. -/
import Derived.Test.YtebegdnebjjnmaaA11
set_option linter.unusedVariables false
set_option linter.unusedSimpArgs false
namespace Go.Proofs.Ytebegdnebjjnmaa.AM
open Go Go.RowKit

section
variable {P : Program} {X O : Nat → Prop} {w0 : World} {M : List MO} {ρ : Nat → Option Nat} {E : Nat → Prop} {w : World}

theorem map_get {α β : Type} {l : List α} {f : α → β} {i : Nat} {y : β} (h : (l.map f)[i]? = some y) : ∃ x, l[i]? = some x ∧ f x = y := by
  rw [List.getElem?_map] at h
  cases hx : l[i]? with
  | none => rw [hx] at h; cases h
  | some x => rw [hx] at h; cases h; exact ⟨x, rfl, rfl⟩

theorem args_rep {ev : Operand → AV} {rv : Operand → Value} (hev : ∀ x, RepA M ρ E w (ev x) (rv x)) (l : List Operand) : ∀ (i : Nat) (x : AV) (v : Value), (l.map ev)[i]? = some x → (l.map rv)[i]? = some v → RepA M ρ E w x v := by
  intro i x v hx hv
  obtain ⟨a, h1, rfl⟩ := map_get hx
  obtain ⟨b, h2, rfl⟩ := map_get hv
  rw [h1] at h2; cases h2
  exact hev a

theorem builtin0_sound (hm : MemOk X O w0 M ρ w) (b : Builtin) (ts : Array TypeId) (ty : TypeId) (cs : Array Bool) (args : List Operand) (ev : Operand → AV) (rv : Operand → Value)
    (hev : ∀ x, RepA M ρ (excl X M ρ) w (ev x) (rv x)) {c : Cls} {v : AV} {M' : List MO} (h : builtin0 P b ts.toList (args.map ev) M = some (c, v, M')) :
    StepOk P X O w0 M ρ w v M' ((builtin b ts ty cs (args.map rv).toArray).run P w) := by
  unfold builtin0 at h
  split at h
  · -- len
    rename_i t ts' x hts hargs
    obtain ⟨a, rfl⟩ : ∃ a, args = [a] := by
      cases args with
      | nil => simp at hargs
      | cons a l => cases l with
        | nil => exact ⟨a, rfl⟩
        | cons => simp at hargs
    simp only [List.map_cons, List.map_nil, List.cons.injEq, and_true] at hargs
    have hx := hev a
    rw [hargs] at hx
    have ht0 : ts[0]? = some t := by rw [← Array.getElem?_toList, hts]; rfl
    simp only [builtin, List.map_cons, List.map_nil]
    split at h
    · rename_i hk
      split at h
      · cases h
      · rename_i hns
        cases hl : lenAV M x with
        | none => rw [hl] at h; cases h
        | some n =>
          rw [hl] at h; cases h
          rcases lenAV_sound hm hx hl with ⟨A, cc, hv⟩ | ⟨s, e, _, _⟩
          · rw [hv]; exact StepOk.same hm (vrun (run_len_slc hk ts ht0 ty A n cc)) (.iv _ _ (.int _ _))
          · exact absurd e (hns s)
    · rename_i hk
      split at h
      · cases h
        rw [inv_str hx]
        exact StepOk.same hm (vrun (run_len_str hk ts ht0 ty _)) (.iv _ _ (.int _ _))
      · cases h
    · cases h
  · -- append
    rename_i t t2 ts' s x hts hargs
    obtain ⟨a, a2, rfl⟩ : ∃ a a2, args = [a, a2] := by
      cases args with
      | nil => simp at hargs
      | cons a l => cases l with
        | nil => simp at hargs
        | cons a2 l => cases l with
          | nil => exact ⟨a, a2, rfl⟩
          | cons => simp at hargs
    simp only [List.map_cons, List.map_nil, List.cons.injEq, and_true] at hargs
    obtain ⟨e1, e2⟩ := hargs
    have ht0 : ts[0]? = some t := by rw [← Array.getElem?_toList, hts]; rfl
    have ht1 : ts[1]? = some t2 := by rw [← Array.getElem?_toList, hts]; rfl
    have main : ∀ (hk : NotInt P t2), (tElem P t).bind (fun e => (appendAV M e s x).map fun (v, M') => (Cls.w, v, M')) = some (c, v, M') →
        StepOk P X O w0 M ρ w v M' ((builtin .append ts ty cs ([a, a2].map rv).toArray).run P w) := by
      intro hk h
      cases he : tElem P t with
      | none => rw [he] at h; cases h
      | some e =>
        rw [he] at h
        simp only [Option.bind_some] at h
        cases ha : appendAV M e s x with
        | none => rw [ha] at h; cases h
        | some q =>
          rw [ha] at h; cases h
          exact step_append hm he ht0 ht1 hk (by rw [← e1]; exact hev a) (by rw [← e2]; exact hev a2) ha
    split at h
    · exact main (notInt_slc (by assumption)) h
    · exact main (notInt_str (by assumption)) h
    · cases h
  · -- min
    rename_i k a l hargs
    cases args with
    | nil => simp at hargs
    | cons o l' =>
      simp only [List.map_cons, List.cons.injEq] at hargs
      obtain ⟨e1, rfl⟩ := hargs
      cases hmn : minAll k a (l'.map ev) with
      | none => rw [hmn] at h; cases h
      | some cc =>
        rw [hmn] at h; cases h
        have hx := hev o
        rw [e1] at hx
        have := min_sound (P := P) (w := w) (l'.map ev) (l'.map rv) a cc (by simp) (args_rep hev l') hmn
        refine StepOk.same hm (vrun (u := .int k cc) ?_) (.iv _ _ (.int _ _))
        simp only [Builtin.min_, List.map_cons, inv_int hx]
        exact this
  · -- max
    rename_i k a l hargs
    cases args with
    | nil => simp at hargs
    | cons o l' =>
      simp only [List.map_cons, List.cons.injEq] at hargs
      obtain ⟨e1, rfl⟩ := hargs
      cases hmn : maxAll k a (l'.map ev) with
      | none => rw [hmn] at h; cases h
      | some cc =>
        rw [hmn] at h; cases h
        have hx := hev o
        rw [e1] at hx
        have := max_sound (P := P) (w := w) (l'.map ev) (l'.map rv) a cc (by simp) (args_rep hev l') hmn
        refine StepOk.same hm (vrun (u := .int k cc) ?_) (.iv _ _ (.int _ _))
        simp only [Builtin.max_, List.map_cons, inv_int hx]
        exact this
  · -- copy
    rename_i t ts' d x hts hargs
    obtain ⟨a, a2, rfl⟩ : ∃ a a2, args = [a, a2] := by
      cases args with
      | nil => simp at hargs
      | cons a l => cases l with
        | nil => simp at hargs
        | cons a2 l => cases l with
          | nil => exact ⟨a, a2, rfl⟩
          | cons => simp at hargs
    simp only [List.map_cons, List.map_nil, List.cons.injEq, and_true] at hargs
    obtain ⟨e1, e2⟩ := hargs
    have ht0 : ts[0]? = some t := by rw [← Array.getElem?_toList, hts]; rfl
    cases he : tElem P t with
    | none => rw [he] at h; cases h
    | some e =>
      rw [he] at h
      simp only [Option.bind_some] at h
      cases hys : elems M e.sz x with
      | none => rw [hys] at h; cases h
      | some ys =>
        rw [hys] at h
        simp only [Option.bind_some] at h
        split at h
        · rename_i k off len n
          split at h
          · rename_i T sz xs hM
            split at h
            · rename_i hc
              obtain ⟨h1, h2, rfl, rfl⟩ := hc
              cases h
              have hd := hev a
              have hx := hev a2
              rw [e1] at hd
              rw [e2] at hx
              exact step_copy hm he ht0 hd hx hM h1 h2 hys
            · cases h
          · cases h
        · cases h
  · cases h

theorem builtin_sound (hm : MemOk X O w0 M ρ w) (b : Builtin) (ts : Array TypeId) (ty : TypeId) (cs : Array Bool) (args : List Operand) (ev : Operand → AV) (rv : Operand → Value)
    (hev : ∀ x, RepA M ρ (excl X M ρ) w (ev x) (rv x)) {c : Cls} {v : AV} {M' : List MO} (h : builtinAV P b ts.toList (args.map ev) M = some (c, v, M')) :
    StepOk P X O w0 M ρ w v M' ((builtin b ts ty cs (args.map rv).toArray).run P w) := by
  unfold builtinAV at h
  split at h
  · unfold clearAV at h
    split at h
    · -- clear
      rename_i t ts' d hts hargs
      obtain ⟨a, rfl⟩ : ∃ a, args = [a] := by
        cases args with
        | nil => simp at hargs
        | cons a l => cases l with
          | nil => exact ⟨a, rfl⟩
          | cons => simp at hargs
      simp only [List.map_cons, List.map_nil, List.cons.injEq, and_true] at hargs
      have ht0 : ts[0]? = some t := by rw [← Array.getElem?_toList, hts]; rfl
      cases he : tElem P t with
      | none => rw [he] at h; cases h
      | some e =>
        rw [he] at h
        simp only [Option.bind_some] at h
        cases hz : constIV e.zero with
        | none => rw [hz] at h; cases h
        | some z =>
          rw [hz] at h
          simp only [Option.bind_some] at h
          split at h
          · rename_i k off len n
            split at h
            · rename_i T sz xs hM
              split at h
              · rename_i hc
                obtain ⟨h1, h2, rfl, rfl, h5⟩ := hc
                cases h
                have hd := hev a
                rw [hargs] at hd
                exact step_clear hm he ht0 hz h5 hd hM h1 h2
              · cases h
            · cases h
          · cases h
    · cases h
  · exact builtin0_sound hm _ ts ty cs args ev rv hev h

theorem option_map_some {α β : Type} {x : Option α} {f : α → β} {y : β} (h : x.map f = some y) : ∃ a, x = some a ∧ f a = y := by
  cases x with
  | none => cases h
  | some a => cases h; exact ⟨a, rfl, rfl⟩
theorem option_bind_some {α β : Type} {x : Option α} {f : α → Option β} {y : β} (h : x.bind f = some y) : ∃ a, x = some a ∧ f a = some y := by
  cases x with
  | none => cases h
  | some a => exact ⟨a, rfl, h⟩

theorem eff_move (hm : MemOk X O w0 M ρ w) (dst0 : Option Tmp) (type : TypeId) (pos : String) (after : Array Edge) (guard : Option (Nat × Bool)) (x : Operand) (ev : Operand → AV) (rv : Operand → Value) (hev : ∀ x, RepA M ρ (excl X M ρ) w (ev x) (rv x)) (hcn : ∀ v, rv (.const v) = v)
    {c : Cls} {v : AV} {M' : List MO} (h : eff P ⟨dst0, .move x, type, pos, after, guard⟩ ev M = some (c, v, M')) : StepOk P X O w0 M ρ w v M' ((execOp rv ⟨dst0, .move x, type, pos, after, guard⟩).run P w) := by
  cases h; exact StepOk.same hm rfl (hev x)

theorem eff_assign (hm : MemOk X O w0 M ρ w) (dst0 : Option Tmp) (type : TypeId) (pos : String) (after : Array Edge) (guard : Option (Nat × Bool)) (x : Operand) (ev : Operand → AV) (rv : Operand → Value) (hev : ∀ x, RepA M ρ (excl X M ρ) w (ev x) (rv x)) (hcn : ∀ v, rv (.const v) = v)
    {c : Cls} {v : AV} {M' : List MO} (h : eff P ⟨dst0, .assign x, type, pos, after, guard⟩ ev M = some (c, v, M')) : StepOk P X O w0 M ρ w v M' ((execOp rv ⟨dst0, .assign x, type, pos, after, guard⟩).run P w) := by
  simp only [eff] at h
  split at h
  · obtain ⟨e, he, h⟩ := option_map_some h
    cases h
    refine step_nilrow hm e.T e.sz (A := none) ?_
    simp only [execOp, hcn]
    rfl
  · cases h; exact StepOk.same hm rfl (hev x)

theorem eff_pick (hm : MemOk X O w0 M ρ w) (dst0 : Option Tmp) (type : TypeId) (pos : String) (after : Array Edge) (guard : Option (Nat × Bool)) (cc a b : Operand) (ev : Operand → AV) (rv : Operand → Value) (hev : ∀ x, RepA M ρ (excl X M ρ) w (ev x) (rv x)) (hcn : ∀ v, rv (.const v) = v)
    {c : Cls} {v : AV} {M' : List MO} (h : eff P ⟨dst0, .pick cc a b, type, pos, after, guard⟩ ev M = some (c, v, M')) : StepOk P X O w0 M ρ w v M' ((execOp rv ⟨dst0, .pick cc a b, type, pos, after, guard⟩).run P w) := by
  simp only [eff] at h
  split at h
  · rename_i t ht
    cases h
    have hc := hev cc
    rw [ht] at hc
    refine StepOk.same hm (u := if t then rv a else rv b) ?_ (by cases t <;> simp <;> exact hev _)
    simp [execOp, inv_bool hc, asBool]
  · cases h

theorem eff_alloc (hm : MemOk X O w0 M ρ w) (dst0 : Option Tmp) (type : TypeId) (pos : String) (after : Array Edge) (guard : Option (Nat × Bool)) (T : TypeId) (ev : Operand → AV) (rv : Operand → Value) (hev : ∀ x, RepA M ρ (excl X M ρ) w (ev x) (rv x)) (hcn : ∀ v, rv (.const v) = v)
    {c : Cls} {v : AV} {M' : List MO} (h : eff P ⟨dst0, .alloc T, type, pos, after, guard⟩ ev M = some (c, v, M')) : StepOk P X O w0 M ρ w v M' ((execOp rv ⟨dst0, .alloc T, type, pos, after, guard⟩).run P w) := by
  simp only [eff] at h
  obtain ⟨z, hz, h⟩ := option_bind_some h
  obtain ⟨cs, hcs, h⟩ := option_map_some h
  cases h
  unfold tZero at hz
  obtain ⟨i, hi, hiz⟩ := option_bind_some hz
  obtain ⟨h1, h2⟩ := rep_cells (rep_constAV (M := M) (ρ := ρ) (E := excl X M ρ) (w := w) z) hcs
  refine step_newvar hm T h1 h2 (w' := w.alloc (.cells z.cells T)) (News.alloc w _) ?_
  simp [execOp, Instr.alloc, run_zeroValue hi hiz, newVar, newRow]

theorem eff_box (hm : MemOk X O w0 M ρ w) (dst0 : Option Tmp) (type : TypeId) (pos : String) (after : Array Edge) (guard : Option (Nat × Bool)) (T : TypeId) (x : Operand) (ev : Operand → AV) (rv : Operand → Value) (hev : ∀ x, RepA M ρ (excl X M ρ) w (ev x) (rv x)) (hcn : ∀ v, rv (.const v) = v)
    {c : Cls} {v : AV} {M' : List MO} (h : eff P ⟨dst0, .box T x, type, pos, after, guard⟩ ev M = some (c, v, M')) : StepOk P X O w0 M ρ w v M' ((execOp rv ⟨dst0, .box T x, type, pos, after, guard⟩).run P w) := by
  simp only [eff] at h
  obtain ⟨cs, hcs, h⟩ := option_map_some h
  cases h
  obtain ⟨h1, h2⟩ := rep_cells (hev x) hcs
  refine step_newvar hm T h1 h2 (w' := w.alloc (.cells (rv x).cells T)) (News.alloc w _) ?_
  simp [execOp, Instr.box, newVar, newRow]

theorem eff_build (hm : MemOk X O w0 M ρ w) (dst0 : Option Tmp) (type : TypeId) (pos : String) (after : Array Edge) (guard : Option (Nat × Bool)) (t : TypeId) (parts : Array (Nat × Operand)) (ev : Operand → AV) (rv : Operand → Value) (hev : ∀ x, RepA M ρ (excl X M ρ) w (ev x) (rv x)) (hcn : ∀ v, rv (.const v) = v)
    {c : Cls} {v : AV} {M' : List MO} (h : eff P ⟨dst0, .build t parts, type, pos, after, guard⟩ ev M = some (c, v, M')) : StepOk P X O w0 M ρ w v M' ((execOp rv ⟨dst0, .build t parts, type, pos, after, guard⟩).run P w) := by
  simp only [eff] at h
  obtain ⟨z, hz, h⟩ := option_bind_some h
  obtain ⟨cs, hcs, h⟩ := option_bind_some h
  obtain ⟨pl, hpl, h⟩ := option_bind_some h
  obtain ⟨r, hr, h⟩ := option_map_some h
  cases h
  obtain ⟨h1, h2⟩ := rep_cells (rep_constAV (M := M) (ρ := ρ) (E := excl X M ρ) (w := w) z) hcs
  obtain ⟨us, k1, k2, k3⟩ := fill_sound (M := M) (ρ := ρ) (E := excl X M ρ) (w := w) (parts.toList.map fun (i, x) => (i, ev x)) (parts.toList.map fun (i, x) => (i, rv x)) cs r z.cells h1 h2 (by simp)
    (fun i p q hp hq => by
      obtain ⟨a, g1, rfl⟩ := map_get hp
      obtain ⟨b, g2, rfl⟩ := map_get hq
      rw [g1] at g2; cases g2
      exact ⟨rfl, hev _⟩) hr
  refine StepOk.same hm (u := .agg us) ?_ (rep_mkAgg k2 k3)
  have := run_build (P := P) (w := w) (parts := parts.map fun (i, x) => (i, rv x)) hz hpl (us := us) (by rw [Array.toList_map]; exact k1)
  exact vrun this

theorem eff_buildSlice (hm : MemOk X O w0 M ρ w) (dst0 : Option Tmp) (type : TypeId) (pos : String) (after : Array Edge) (guard : Option (Nat × Bool)) (t : TypeId) (len : Nat) (parts : Array (Nat × Operand)) (ev : Operand → AV) (rv : Operand → Value) (hev : ∀ x, RepA M ρ (excl X M ρ) w (ev x) (rv x)) (hcn : ∀ v, rv (.const v) = v)
    {c : Cls} {v : AV} {M' : List MO} (h : eff P ⟨dst0, .buildSlice t len parts, type, pos, after, guard⟩ ev M = some (c, v, M')) : StepOk P X O w0 M ρ w v M' ((execOp rv ⟨dst0, .buildSlice t len parts, type, pos, after, guard⟩).run P w) := by
  simp only [eff] at h
  obtain ⟨e, he, h⟩ := option_bind_some h
  obtain ⟨z, hz, h⟩ := option_bind_some h
  split at h
  · rename_i hc
    obtain ⟨q, hq, h⟩ := option_bind_some h
    obtain ⟨ps, M1⟩ := q
    simp only at h
    split at h
    · rename_i hall
      obtain ⟨xs, hxs, h⟩ := option_map_some h
      cases h
      have hps : ∀ (i : Nat) (p : Nat × AV) (q : Nat × Value), (parts.toList.map fun (i, x) => (i, ev x))[i]? = some p → (parts.map fun (i, x) => (i, rv x))[i]? = some q → p.1 = q.1 ∧ RepA M ρ (excl X M ρ) w p.2 q.2 := by
        intro i p q hp hq
        obtain ⟨a, g1, rfl⟩ := map_get hp
        rw [Array.getElem?_map] at hq
        rw [Array.getElem?_toList] at g1
        rw [g1] at hq; cases hq
        exact ⟨rfl, hev _⟩
      have hl : (parts.map fun (i, x) => (i, rv x)).size = (parts.toList.map fun (i, x) => (i, ev x)).length := by simp
      have := step_buildSlice (P := P) hm he hz hc.1 hc.2 hl hps hq hall hxs
      simp only [execOp]
      exact this
    · cases h
  · cases h

theorem eff_load (hm : MemOk X O w0 M ρ w) (dst0 : Option Tmp) (type : TypeId) (pos : String) (after : Array Edge) (guard : Option (Nat × Bool)) (t : TypeId) (a : Operand) (ev : Operand → AV) (rv : Operand → Value) (hev : ∀ x, RepA M ρ (excl X M ρ) w (ev x) (rv x)) (hcn : ∀ v, rv (.const v) = v)
    {c : Cls} {v : AV} {M' : List MO} (h : eff P ⟨dst0, .load t a, type, pos, after, guard⟩ ev M = some (c, v, M')) : StepOk P X O w0 M ρ w v M' ((execOp rv ⟨dst0, .load t a, type, pos, after, guard⟩).run P w) := by
  simp only [eff] at h
  obtain ⟨ag, hag, h⟩ := option_bind_some h
  have ha := hev a
  split at h
  · rename_i k off he
    rw [he] at ha
    split at h
    · rename_i T cs hM
      obtain ⟨r, hr, h⟩ := option_map_some h
      cases h
      obtain ⟨u, h1, h2⟩ := load_var hm hag ha hM hr
      exact StepOk.same hm (vrun h1) h2
    · cases h
  · rename_i k n i c he
    rw [he] at ha
    obtain ⟨⟨m, T, sz, xs⟩, hr, h⟩ := option_bind_some h
    obtain ⟨x, hx, h⟩ := option_bind_some h
    obtain ⟨r, hr2, h⟩ := option_map_some h
    cases h
    obtain ⟨u, h1, h2⟩ := load_row hm hag ha hr hx hr2
    exact StepOk.same hm (vrun h1) (.iv _ _ h2)
  · rename_i sz xs i c he
    rw [he] at ha
    obtain ⟨x, hx, h⟩ := option_bind_some h
    obtain ⟨r, hr2, h⟩ := option_map_some h
    cases h
    obtain ⟨u, h1, h2⟩ := load_ip hag ha hx hr2
    exact StepOk.same hm (vrun h1) (.iv _ _ h2)
  · cases h

theorem eff_store (hm : MemOk X O w0 M ρ w) (dst0 : Option Tmp) (type : TypeId) (pos : String) (after : Array Edge) (guard : Option (Nat × Bool)) (t : TypeId) (a x : Operand) (ev : Operand → AV) (rv : Operand → Value) (hev : ∀ x, RepA M ρ (excl X M ρ) w (ev x) (rv x)) (hcn : ∀ v, rv (.const v) = v)
    {c : Cls} {v : AV} {M' : List MO} (h : eff P ⟨dst0, .store t a x, type, pos, after, guard⟩ ev M = some (c, v, M')) : StepOk P X O w0 M ρ w v M' ((execOp rv ⟨dst0, .store t a x, type, pos, after, guard⟩).run P w) := by
  simp only [eff] at h
  obtain ⟨n, hn, h⟩ := option_bind_some h
  have ha := hev a
  split at h
  · rename_i k off he
    rw [he] at ha
    split at h
    · rename_i T cs hM
      obtain ⟨ys, hys, h⟩ := option_bind_some h
      split at h
      · rename_i hc
        cases h
        exact step_storevar hm hn ha (hev x) hM hys hc.1 hc.2.1 hc.2.2
      · cases h
    · cases h
  · rename_i k m i c he
    rw [he] at ha
    obtain ⟨⟨y, M1⟩, hy, h⟩ := option_bind_some h
    simp only at h
    split at h
    · rename_i T sz xs hM
      split at h
      · rename_i hc
        obtain ⟨old, hold, h⟩ := option_bind_some h
        obtain ⟨z, hz, h⟩ := option_map_some h
        cases h
        exact step_storerow hm hn ha (hev x) hy hM hc.1 hc.2 hold hz
      · cases h
    · cases h
  · cases h

theorem eff_nilCheck (hm : MemOk X O w0 M ρ w) (dst0 : Option Tmp) (type : TypeId) (pos : String) (after : Array Edge) (guard : Option (Nat × Bool)) (x : Operand) (ev : Operand → AV) (rv : Operand → Value) (hev : ∀ x, RepA M ρ (excl X M ρ) w (ev x) (rv x)) (hcn : ∀ v, rv (.const v) = v)
    {c : Cls} {v : AV} {M' : List MO} (h : eff P ⟨dst0, .nilCheck x, type, pos, after, guard⟩ ev M = some (c, v, M')) : StepOk P X O w0 M ρ w v M' ((execOp rv ⟨dst0, .nilCheck x, type, pos, after, guard⟩).run P w) := by
  simp only [eff] at h
  have hx := hev x
  split at h
  · rename_i k off he
    cases h
    rw [he] at hx
    obtain ⟨T, cs, b, h1, hb, hv⟩ := inv_mp hx
    refine StepOk.same hm (u := rv x) ?_ hx
    simp only [execOp, hv]; rfl
  · rename_i sz xs i c he
    cases h
    rw [he] at hx
    refine StepOk.same hm (u := rv x) ?_ hx
    generalize hv : rv x = vv at hx
    cases hx
    simp only [execOp, hv]; rfl
  · rename_i k n i c he
    obtain ⟨⟨m, T, sz, xs⟩, hr, h⟩ := option_map_some h
    cases h
    rw [he] at hx
    obtain ⟨hM, hn⟩ := rowAt_spec hr
    obtain ⟨b, hb, hv⟩ := rp_spec hx hM hn
    refine StepOk.same hm (u := rv x) ?_ hx
    simp only [execOp, hv]; rfl
  · rename_i f cs he
    cases h
    rw [he] at hx
    refine StepOk.same hm (u := rv x) ?_ hx
    generalize hv : rv x = vv at hx
    cases hx
    simp only [execOp, hv]; rfl
  · rename_i f he
    cases h
    rw [he] at hx
    refine StepOk.same hm (u := rv x) ?_ hx
    simp only [execOp, inv_fnc hx]; rfl
  · cases h

theorem equalIn_slice_nil {t e : TypeId} (h : P.underlying t = some (.slice e)) (a : Addr) (n c : Nat) (d : Nat) : (Op.equalIn (d + 1) t (.slice (some a) n c) (.slice none 0 0)).run P w = .ok false w := by
  simp [Op.equalIn, run_underlying h]
theorem equal_slice_nil {t e : TypeId} (h : P.underlying t = some (.slice e)) (a : Addr) (n c : Nat) : (Op.equal t (.slice (some a) n c) (.slice none 0 0)).run P w = .ok false w := equalIn_slice_nil h a n c 9999

theorem eff_binOp (hm : MemOk X O w0 M ρ w) (dst0 : Option Tmp) (type : TypeId) (pos : String) (after : Array Edge) (guard : Option (Nat × Bool)) (op : BinOp) (t : TypeId) (x y : Operand) (yt : TypeId) (ev : Operand → AV) (rv : Operand → Value) (hev : ∀ x, RepA M ρ (excl X M ρ) w (ev x) (rv x)) (hcn : ∀ v, rv (.const v) = v)
    {c : Cls} {v : AV} {M' : List MO} (h : eff P ⟨dst0, .binOp op t x y yt, type, pos, after, guard⟩ ev M = some (c, v, M')) : StepOk P X O w0 M ρ w v M' ((execOp rv ⟨dst0, .binOp op t x y yt, type, pos, after, guard⟩).run P w) := by
  simp only [eff] at h
  cases hn : nilCmp P op t y (ev x) with
  | some b =>
    rw [hn] at h
    cases h
    unfold nilCmp at hn
    split at hn
    · split at hn
      · rename_i sz xs hk hxe
        split at hn
        · rename_i hpos
          obtain ⟨e, he⟩ := tKind_slc hk
          have hx := hev x
          rw [hxe] at hx
          obtain ⟨A, n, cc, hrx⟩ : ∃ A n cc, rv x = .slice (some A) n cc := by
            cases hx with
            | iv _ _ hi =>
              generalize rv x = vv at hi
              cases hi with
              | sl0 => simp at hpos
              | sl _ _ bb oo cc => exact ⟨_, _, _, rfl⟩
          have heq : (Op.equal t (.slice (some A) n cc) (.slice none 0 0)).run P w = .ok false w := by
            exact equal_slice_nil he A n cc
          split at hn
          · cases hn
            refine StepOk.same hm (u := .bool false) (vrun ?_) (.iv _ _ (.bool _))
            rw [hrx, hcn, eqGuard_at_slice]
            simp [binOp, heq]
          · cases hn
            refine StepOk.same hm (u := .bool true) (vrun ?_) (.iv _ _ (.bool _))
            rw [hrx, hcn, eqGuard_at_slice]
            simp [binOp, heq]
          · cases hn
        · cases hn
      · cases hn
    · cases hn
  | none =>
    rw [hn] at h
    obtain ⟨r, hr, h⟩ := option_map_some h
    cases h
    obtain ⟨z, h1, h2⟩ := binAV_sound (P := P) x y (hev x) (hev y) hr
    exact StepOk.same hm (vrun h1) (.iv _ _ h2)

theorem eff_unOp (hm : MemOk X O w0 M ρ w) (dst0 : Option Tmp) (type : TypeId) (pos : String) (after : Array Edge) (guard : Option (Nat × Bool)) (op : UnOp) (t : TypeId) (x : Operand) (ev : Operand → AV) (rv : Operand → Value) (hev : ∀ x, RepA M ρ (excl X M ρ) w (ev x) (rv x)) (hcn : ∀ v, rv (.const v) = v)
    {c : Cls} {v : AV} {M' : List MO} (h : eff P ⟨dst0, .unOp op t x, type, pos, after, guard⟩ ev M = some (c, v, M')) : StepOk P X O w0 M ρ w v M' ((execOp rv ⟨dst0, .unOp op t x, type, pos, after, guard⟩).run P w) := by
  simp only [eff] at h
  obtain ⟨r, hr, h⟩ := option_map_some h
  cases h
  obtain ⟨z, h1, h2⟩ := unAV_sound (P := P) (hev x) hr
  exact StepOk.same hm (vrun h1) (.iv _ _ h2)

theorem eff_convert (hm : MemOk X O w0 M ρ w) (dst0 : Option Tmp) (type : TypeId) (pos : String) (after : Array Edge) (guard : Option (Nat × Bool)) (src dst : TypeId) (x : Operand) (ev : Operand → AV) (rv : Operand → Value) (hev : ∀ x, RepA M ρ (excl X M ρ) w (ev x) (rv x)) (hcn : ∀ v, rv (.const v) = v)
    {c : Cls} {v : AV} {M' : List MO} (h : eff P ⟨dst0, .convert src dst x, type, pos, after, guard⟩ ev M = some (c, v, M')) : StepOk P X O w0 M ρ w v M' ((execOp rv ⟨dst0, .convert src dst x, type, pos, after, guard⟩).run P w) := by
  simp only [eff] at h
  split at h
  · rename_i r hr
    cases h
    obtain ⟨_, rfl, z, h1, h2⟩ := convAV_sound (P := P) (hev x) hr
    exact StepOk.same hm (vrun h1) h2
  · obtain ⟨_, rfl, z, h1, h2⟩ := strOf_sound (P := P) hm (hev x) h
    exact StepOk.same hm (vrun h1) h2

theorem eff_makeFunc (hm : MemOk X O w0 M ρ w) (dst0 : Option Tmp) (type : TypeId) (pos : String) (after : Array Edge) (guard : Option (Nat × Bool)) (fn : Fn) (first caps : Array Operand) (ev : Operand → AV) (rv : Operand → Value) (hev : ∀ x, RepA M ρ (excl X M ρ) w (ev x) (rv x)) (hcn : ∀ v, rv (.const v) = v)
    {c : Cls} {v : AV} {M' : List MO} (h : eff P ⟨dst0, .makeFunc fn first caps, type, pos, after, guard⟩ ev M = some (c, v, M')) : StepOk P X O w0 M ρ w v M' ((execOp rv ⟨dst0, .makeFunc fn first caps, type, pos, after, guard⟩).run P w) := by
  cases fn with
  | func f =>
    simp only [eff] at h
    split at h
    · rename_i hf
      have hf : first = #[] := by simpa using hf
      cases h
      refine StepOk.same hm (u := .func (.func f) #[] (caps.map rv)) (by simp [execOp, Instr.makeFunc, hf]) ?_
      split
      · rename_i hc
        have hc : caps = #[] := by simpa using hc
        subst hc
        rw [Array.map_empty]
        exact .iv _ _ (.fnc f)
      · refine .fn f _ _ (by simp) (fun i y z hy hz => ?_)
        obtain ⟨a, g1, rfl⟩ := map_get hy
        rw [Array.getElem?_map] at hz
        rw [Array.getElem?_toList] at g1
        rw [g1] at hz; cases hz
        exact hev a
    · cases h
  | _ => cases h

theorem eff_makeSlice (hm : MemOk X O w0 M ρ w) (dst0 : Option Tmp) (type : TypeId) (pos : String) (after : Array Edge) (guard : Option (Nat × Bool)) (t : TypeId) (l cc : Operand) (ev : Operand → AV) (rv : Operand → Value) (hev : ∀ x, RepA M ρ (excl X M ρ) w (ev x) (rv x)) (hcn : ∀ v, rv (.const v) = v)
    {c : Cls} {v : AV} {M' : List MO} (h : eff P ⟨dst0, .makeSlice t l cc, type, pos, after, guard⟩ ev M = some (c, v, M')) : StepOk P X O w0 M ρ w v M' ((execOp rv ⟨dst0, .makeSlice t l cc, type, pos, after, guard⟩).run P w) := by
  simp only [eff] at h
  split at h
  · rename_i k n k' m h1 h2
    obtain ⟨e, he, hA⟩ := option_bind_some h
    obtain ⟨z, hz, hB⟩ := option_bind_some hA
    clear h hA
    split at hB
    · rename_i hc
      obtain ⟨g0, g3, g1, g2⟩ := hc
      cases hB
      subst g3
      have hl := hev l
      have hcc := hev cc
      rw [h1] at hl
      rw [h2] at hcc
      simp only [execOp, inv_int hl, inv_int hcc]
      exact step_make hm he hz g2 g0 g1
    · cases hB
  · cases h

theorem eff_slice (hm : MemOk X O w0 M ρ w) (dst0 : Option Tmp) (type : TypeId) (pos : String) (after : Array Edge) (guard : Option (Nat × Bool)) (t : TypeId) (x : Operand) (lo hi mx : Option Operand) (ev : Operand → AV) (rv : Operand → Value) (hev : ∀ x, RepA M ρ (excl X M ρ) w (ev x) (rv x)) (hcn : ∀ v, rv (.const v) = v)
    {c : Cls} {v : AV} {M' : List MO} (h : eff P ⟨dst0, .slice t x lo hi mx, type, pos, after, guard⟩ ev M = some (c, v, M')) : StepOk P X O w0 M ρ w v M' ((execOp rv ⟨dst0, .slice t x lo hi mx, type, pos, after, guard⟩).run P w) := by
  simp only [eff] at h
  split at h
  · cases h
  · rename_i hmx
    obtain ⟨r, hr, h⟩ := option_map_some h
    cases h
    obtain ⟨u, h1, h2⟩ := sliceAV_sound (P := P) hm hev hr (fun hs => by
      cases hh : hi.isSome with
      | true => rfl
      | false => exact absurd ⟨hs, hh⟩ hmx)
    exact StepOk.same hm (vrun h1) h2

theorem eff_fieldAddr (hm : MemOk X O w0 M ρ w) (dst0 : Option Tmp) (type : TypeId) (pos : String) (after : Array Edge) (guard : Option (Nat × Bool)) (s : TypeId) (x : Operand) (f : Nat) (ev : Operand → AV) (rv : Operand → Value) (hev : ∀ x, RepA M ρ (excl X M ρ) w (ev x) (rv x)) (hcn : ∀ v, rv (.const v) = v)
    {c : Cls} {v : AV} {M' : List MO} (h : eff P ⟨dst0, .fieldAddr s x f, type, pos, after, guard⟩ ev M = some (c, v, M')) : StepOk P X O w0 M ρ w v M' ((execOp rv ⟨dst0, .fieldAddr s x f, type, pos, after, guard⟩).run P w) := by
  simp only [eff] at h
  obtain ⟨⟨off, ft⟩, ht, h⟩ := option_bind_some h
  have hx := hev x
  simp only at h
  split at h
  · rename_i k o he
    cases h
    rw [he] at hx
    obtain ⟨T, cs, b, h1, hb, hv⟩ := inv_mp hx
    refine StepOk.same hm (u := .pointer (some ⟨b, o + off, none⟩)) ?_ (.mp _ _ T cs b h1 hb)
    simp only [execOp, hv]
    exact vrun (by rw [run_fieldAt ht, Addr.add_lit])
  · rename_i sz xs i c he
    cases h
    rw [he] at hx
    generalize hv : rv x = vv at hx
    cases hx with
    | ip _ _ _ _ b o cap hr hi =>
      refine StepOk.same hm (u := .pointer (some ⟨b, o + (i * sz + (c + off)), none⟩)) ?_ (.ip _ _ _ _ b o cap hr hi)
      simp only [execOp, hv]
      exact vrun (by rw [run_fieldAt ht, Addr.add_lit, Nat.add_assoc, Nat.add_assoc])
  · rename_i k n i c he
    obtain ⟨⟨m, T, sz, xs⟩, hr, h⟩ := option_map_some h
    cases h
    rw [he] at hx
    obtain ⟨hM, hn⟩ := rowAt_spec hr
    obtain ⟨b, hb, hv⟩ := rp_spec hx hM hn
    refine StepOk.same hm (u := .pointer (some ⟨b, i * sz + (c + off), none⟩)) ?_ (.rp _ _ _ _ _ m T sz xs hM (by omega) ⟨_, rfl⟩ (fun _ => ⟨b, hb, rfl⟩))
    simp only [execOp, hv]
    exact vrun (by rw [run_fieldAt ht, Addr.add_lit, Nat.add_assoc])
  · cases h

theorem eff_field (hm : MemOk X O w0 M ρ w) (dst0 : Option Tmp) (type : TypeId) (pos : String) (after : Array Edge) (guard : Option (Nat × Bool)) (s : TypeId) (x : Operand) (f : Nat) (ev : Operand → AV) (rv : Operand → Value) (hev : ∀ x, RepA M ρ (excl X M ρ) w (ev x) (rv x)) (hcn : ∀ v, rv (.const v) = v)
    {c : Cls} {v : AV} {M' : List MO} (h : eff P ⟨dst0, .field s x f, type, pos, after, guard⟩ ev M = some (c, v, M')) : StepOk P X O w0 M ρ w v M' ((execOp rv ⟨dst0, .field s x f, type, pos, after, guard⟩).run P w) := by
  simp only [eff] at h
  obtain ⟨⟨off, ft⟩, ht, h⟩ := option_bind_some h
  obtain ⟨ag, hag, h⟩ := option_bind_some h
  have hx := hev x
  split at h
  · rename_i cs he
    obtain ⟨r, hr, h⟩ := option_map_some h
    cases h
    rw [he] at hx
    obtain ⟨vs, hv, hl, hc⟩ := inv_ivagg hx
    obtain ⟨u, h1, h2⟩ := elemPart_part (P := P) hag hr hl hc
    simp only [execOp, hv]
    exact StepOk.same hm (vrun (run_field ht h1)) (.iv _ _ h2)
  · rename_i cs he
    obtain ⟨r, hr, h⟩ := option_map_some h
    cases h
    rw [he] at hx
    obtain ⟨vs, hv, hl, hc⟩ := inv_agg hx
    obtain ⟨u, h1, h2⟩ := varPart_part (P := P) hag hr hl hc
    simp only [execOp, hv]
    exact StepOk.same hm (vrun (run_field ht h1)) h2
  · cases h

theorem eff_indexAddr (hm : MemOk X O w0 M ρ w) (dst0 : Option Tmp) (type : TypeId) (pos : String) (after : Array Edge) (guard : Option (Nat × Bool)) (t : TypeId) (x i : Operand) (ev : Operand → AV) (rv : Operand → Value) (hev : ∀ x, RepA M ρ (excl X M ρ) w (ev x) (rv x)) (hcn : ∀ v, rv (.const v) = v)
    {c : Cls} {v : AV} {M' : List MO} (h : eff P ⟨dst0, .indexAddr t x i, type, pos, after, guard⟩ ev M = some (c, v, M')) : StepOk P X O w0 M ρ w v M' ((execOp rv ⟨dst0, .indexAddr t x i, type, pos, after, guard⟩).run P w) := by
  simp only [eff] at h
  obtain ⟨j, hj, h⟩ := option_bind_some h
  obtain ⟨kj, hvj⟩ := idx_spec (hev i) hj
  have hx := hev x
  split at h
  · rename_i sz xs he
    obtain ⟨e, het, h⟩ := option_bind_some h
    split at h
    · rename_i hc
      obtain ⟨g0, g1, rfl⟩ := hc
      cases h
      rw [he] at hx
      cases hx with
      | iv _ _ hx =>
        obtain ⟨A, cap, hv, hcap, hh⟩ := inv_rep_sl hx
        rw [hv] at hx
        rcases hh with rfl | ⟨b, o, rfl, _⟩
        · simp at g1; omega
        · simp only [execOp, hv, hvj]
          refine StepOk.same hm (vrun (run_indexAt het b o xs.length cap kj j g0 g1)) ?_
          exact .ip _ _ j.toNat 0 b o cap hx (by omega)
    · cases h
  · rename_i k off len n he
    obtain ⟨e, het, h⟩ := option_bind_some h
    obtain ⟨⟨m, T, sz, xs⟩, hr, h⟩ := option_bind_some h
    simp only at h
    split at h
    · rename_i hc
      obtain ⟨g0, g1, rfl⟩ := hc
      cases h
      rw [he] at hx
      obtain ⟨hM, hn⟩ := rowAt_spec hr
      obtain ⟨g2, A, cap, hv, hlc, g3⟩ := msl_spec hx hM hn
      cases hk : ρ k with
      | none => rw [hk] at g3; omega
      | some b =>
        rw [hk] at g3
        have hA := g3.1 (by omega)
        subst hA
        simp only [execOp, hv, hvj]
        refine StepOk.same hm (vrun (run_indexAt het b (off * e.sz) len cap kj j g0 g1)) ?_
        exact .rp _ _ _ _ _ m T e.sz xs hM (by omega) ⟨_, rfl⟩ (fun _ => ⟨b, hk, by rw [Nat.add_mul, Nat.add_zero]⟩)
    · cases h
  · rename_i k off he
    obtain ⟨⟨n, et, sz⟩, hta, h⟩ := option_bind_some h
    simp only at h
    split at h
    · rename_i hc
      cases h
      rw [he] at hx
      obtain ⟨T, cs, b, h1, hb, hv⟩ := inv_mp hx
      simp only [execOp, hv, hvj]
      exact StepOk.same hm (vrun (run_indexAt_arr hta b off kj j hc.1 hc.2)) (.mp _ _ T cs b h1 hb)
    · cases h
  · cases h

theorem eff_index (hm : MemOk X O w0 M ρ w) (dst0 : Option Tmp) (type : TypeId) (pos : String) (after : Array Edge) (guard : Option (Nat × Bool)) (t : TypeId) (x i : Operand) (ev : Operand → AV) (rv : Operand → Value) (hev : ∀ x, RepA M ρ (excl X M ρ) w (ev x) (rv x)) (hcn : ∀ v, rv (.const v) = v)
    {c : Cls} {v : AV} {M' : List MO} (h : eff P ⟨dst0, .index t x i, type, pos, after, guard⟩ ev M = some (c, v, M')) : StepOk P X O w0 M ρ w v M' ((execOp rv ⟨dst0, .index t x i, type, pos, after, guard⟩).run P w) := by
  simp only [eff] at h
  obtain ⟨j, hj, h⟩ := option_bind_some h
  obtain ⟨kj, hvj⟩ := idx_spec (hev i) hj
  have hx := hev x
  split at h
  · rename_i s he
    split at h
    · rename_i hk
      have hk : tKind P t = some .str := by
        cases ht : tKind P t with
        | none => rw [ht] at hk; cases hk
        | some d => cases d <;> rw [ht] at hk <;> first | rfl | cases hk
      by_cases hc : 0 ≤ j ∧ j < (s.size : Int)
      · rw [if_pos hc] at h
        cases h
        rw [he] at hx
        simp only [execOp, inv_str hx, hvj]
        exact StepOk.same hm (vrun (run_index_str hk s kj j hc.1 hc.2)) (.iv _ _ (.int _ _))
      · rw [if_neg hc] at h; cases h
    · cases h
  · rename_i cs he
    obtain ⟨⟨n, et, sz⟩, hta, h⟩ := option_bind_some h
    obtain ⟨ag, hag, h⟩ := option_bind_some h
    split at h
    · rename_i hc
      obtain ⟨r, hr, h⟩ := option_map_some h
      cases h
      rw [he] at hx
      obtain ⟨vs, hv, hl, hcc⟩ := inv_ivagg hx
      obtain ⟨u, h1, h2⟩ := elemPart_part (P := P) hag hr hl hcc
      simp only [execOp, hv, hvj]
      exact StepOk.same hm (vrun (run_index_arr hta kj j hc.1 hc.2 h1)) (.iv _ _ h2)
    · cases h
  · cases h

theorem eff_extract (hm : MemOk X O w0 M ρ w) (dst0 : Option Tmp) (type : TypeId) (pos : String) (after : Array Edge) (guard : Option (Nat × Bool)) (x : Operand) (i : Nat) (ev : Operand → AV) (rv : Operand → Value) (hev : ∀ x, RepA M ρ (excl X M ρ) w (ev x) (rv x)) (hcn : ∀ v, rv (.const v) = v)
    {c : Cls} {v : AV} {M' : List MO} (h : eff P ⟨dst0, .extract x i, type, pos, after, guard⟩ ev M = some (c, v, M')) : StepOk P X O w0 M ρ w v M' ((execOp rv ⟨dst0, .extract x i, type, pos, after, guard⟩).run P w) := by
  simp only [eff] at h
  have hx := hev x
  split at h
  · rename_i vs he
    obtain ⟨r, hr, h⟩ := option_map_some h
    cases h
    rw [he] at hx
    cases hx with
    | iv _ _ hx =>
      obtain ⟨us, hv, hl, hc⟩ := inv_rep_tup hx
      have hlt := lt_of_get hr
      have hu : us[i]? = some (us[i]'(by omega)) := Array.getElem?_eq_getElem (by omega)
      refine StepOk.same hm (u := us[i]'(by omega)) ?_ (.iv _ _ (hc i _ _ hr hu))
      simp [execOp, hv, Instr.extract, hu]
  · rename_i vs he
    obtain ⟨r, hr, h⟩ := option_map_some h
    cases h
    rw [he] at hx
    generalize hv : rv x = vv at hx
    cases hx with
    | tup _ us hl hc =>
      have hlt := lt_of_get hr
      have hu : us[i]? = some (us[i]'(by omega)) := Array.getElem?_eq_getElem (by omega)
      refine StepOk.same hm (u := us[i]'(by omega)) ?_ (hc i _ _ hr hu)
      simp [execOp, hv, Instr.extract, hu]
  · cases h

theorem eff_call (hm : MemOk X O w0 M ρ w) (dst0 : Option Tmp) (type : TypeId) (pos : String) (after : Array Edge) (guard : Option (Nat × Bool)) (cl : Call) (ev : Operand → AV) (rv : Operand → Value) (hev : ∀ x, RepA M ρ (excl X M ρ) w (ev x) (rv x)) (hcn : ∀ v, rv (.const v) = v)
    {c : Cls} {v : AV} {M' : List MO} (h : eff P ⟨dst0, .call cl, type, pos, after, guard⟩ ev M = some (c, v, M')) : StepOk P X O w0 M ρ w v M' ((execOp rv ⟨dst0, .call cl, type, pos, after, guard⟩).run P w) := by
  simp only [eff] at h
  split at h
  · rename_i b hb
    have := builtin_sound (P := P) hm b cl.argTypes type (cl.args.map fun | .const _ => true | _ => false) cl.args.toList ev rv hev h
    simp only [execOp, resolve, hb]
    have e : (cl.args.toList.map rv).toArray = cl.args.map rv := by rw [← Array.toList_map]
    rw [e] at this
    exact this
  · cases h

theorem eff_sound (hm : MemOk X O w0 M ρ w) (o : Oper) (ev : Operand → AV) (rv : Operand → Value) (hev : ∀ x, RepA M ρ (excl X M ρ) w (ev x) (rv x)) (hcn : ∀ v, rv (.const v) = v) {c : Cls} {v : AV} {M' : List MO} (h : eff P o ev M = some (c, v, M')) :
    StepOk P X O w0 M ρ w v M' ((execOp rv o).run P w) := by
  obtain ⟨dst, op, type, pos, after, guard⟩ := o
  cases op with
  | move x0 => exact eff_move hm dst type pos after guard x0 ev rv hev hcn h
  | assign x0 => exact eff_assign hm dst type pos after guard x0 ev rv hev hcn h
  | pick x0 x1 x2 => exact eff_pick hm dst type pos after guard x0 x1 x2 ev rv hev hcn h
  | alloc x0 => exact eff_alloc hm dst type pos after guard x0 ev rv hev hcn h
  | box x0 x1 => exact eff_box hm dst type pos after guard x0 x1 ev rv hev hcn h
  | build x0 x1 => exact eff_build hm dst type pos after guard x0 x1 ev rv hev hcn h
  | buildSlice x0 x1 x2 => exact eff_buildSlice hm dst type pos after guard x0 x1 x2 ev rv hev hcn h
  | load x0 x1 => exact eff_load hm dst type pos after guard x0 x1 ev rv hev hcn h
  | store x0 x1 x2 => exact eff_store hm dst type pos after guard x0 x1 x2 ev rv hev hcn h
  | nilCheck x0 => exact eff_nilCheck hm dst type pos after guard x0 ev rv hev hcn h
  | binOp x0 x1 x2 x3 x4 => exact eff_binOp hm dst type pos after guard x0 x1 x2 x3 x4 ev rv hev hcn h
  | unOp x0 x1 x2 => exact eff_unOp hm dst type pos after guard x0 x1 x2 ev rv hev hcn h
  | convert x0 x1 x2 => exact eff_convert hm dst type pos after guard x0 x1 x2 ev rv hev hcn h
  | makeFunc x0 x1 x2 => exact eff_makeFunc hm dst type pos after guard x0 x1 x2 ev rv hev hcn h
  | makeSlice x0 x1 x2 => exact eff_makeSlice hm dst type pos after guard x0 x1 x2 ev rv hev hcn h
  | slice x0 x1 x2 x3 x4 => exact eff_slice hm dst type pos after guard x0 x1 x2 x3 x4 ev rv hev hcn h
  | fieldAddr x0 x1 x2 => exact eff_fieldAddr hm dst type pos after guard x0 x1 x2 ev rv hev hcn h
  | field x0 x1 x2 => exact eff_field hm dst type pos after guard x0 x1 x2 ev rv hev hcn h
  | indexAddr x0 x1 x2 => exact eff_indexAddr hm dst type pos after guard x0 x1 x2 ev rv hev hcn h
  | index x0 x1 x2 => exact eff_index hm dst type pos after guard x0 x1 x2 ev rv hev hcn h
  | extract x0 x1 => exact eff_extract hm dst type pos after guard x0 x1 ev rv hev hcn h
  | call x0 => exact eff_call hm dst type pos after guard x0 ev rv hev hcn h
  | _ => cases h

end
end Go.Proofs.Ytebegdnebjjnmaa.AM
