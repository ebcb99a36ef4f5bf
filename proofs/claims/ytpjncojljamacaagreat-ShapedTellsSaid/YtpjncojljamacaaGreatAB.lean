
/- The abstract machine, second part: calls, code, the rules by which it is run. No condition. -/
import Derived.Test.YtpjncojljamacaaGreatAX
import Derived.Scope
import Derived.ControlIn
import Derived.CallsIn
import Derived.OrdersIn
import Derived.LoopNIn
import Derived.RangeFuncCalls
import Derived.RangeFuncNested
import Derived.Attr
import Derived.Laws.IdiomStrings
set_option linter.unusedVariables false
set_option linter.unusedSimpArgs false
namespace Go.Proofs.YtpjncojljamacaaGreat.AM
open Go Go.RowKit

section
variable {P : Program} {X O : Nat → Prop} {w0 : World} {M : List MO} {ρ : Nat → Option Nat} {E : Nat → Prop} {w : World}

theorem map_get {α β : Type} {l : List α} {f : α → β} {i : Nat} {y : β} (h : (l.map f)[i]? = some y) : ∃ x, l[i]? = some x ∧ f x = y := by
  rw [List.getElem?_map] at h
  cases hx : l[i]? with
  | none => rw [hx] at h; cases h
  | some x => rw [hx] at h; cases h; exact ⟨x, rfl, rfl⟩

theorem args_rep {ev : Operand → AV} {rv : Operand → Value} (hev : ∀ x, RepA M ρ E w (ev x) (rv x)) (l : List Operand) : ∀ (i : Nat) (x : AV) (v : Value), (l.map ev)[i]? = some x → (l.map rv)[i]? = some v → RepA M ρ E w x v := by
  intro i x v hx hv
  obtain ⟨a, h1, rfl⟩ := map_get hx
  obtain ⟨b, h2, rfl⟩ := map_get hv
  rw [h1] at h2; cases h2
  exact hev a

theorem builtin0_sound (hm : MemOk X O w0 M ρ w) (b : Builtin) (ts : Array TypeId) (ty : TypeId) (cs : Array Bool) (args : List Operand) (ev : Operand → AV) (rv : Operand → Value)
    (hev : ∀ x, RepA M ρ (excl X M ρ) w (ev x) (rv x)) {c : Cls} {v : AV} {M' : List MO} (h : builtin0 P b ts.toList (args.map ev) M = some (c, v, M')) :
    StepOk P X O w0 M ρ w v M' ((builtin b ts ty cs (args.map rv).toArray).run P w) := by
  unfold builtin0 at h
  split at h
  · -- len
    rename_i t ts' x hts hargs
    obtain ⟨a, rfl⟩ : ∃ a, args = [a] := by
      cases args with
      | nil => simp at hargs
      | cons a l => cases l with
        | nil => exact ⟨a, rfl⟩
        | cons => simp at hargs
    simp only [List.map_cons, List.map_nil, List.cons.injEq, and_true] at hargs
    have hx := hev a
    rw [hargs] at hx
    have ht0 : ts[0]? = some t := by rw [← Array.getElem?_toList, hts]; rfl
    simp only [builtin, List.map_cons, List.map_nil]
    split at h
    · rename_i hk
      split at h
      · cases h
      · rename_i hns
        cases hl : lenAV M x with
        | none => rw [hl] at h; cases h
        | some n =>
          rw [hl] at h; cases h
          rcases lenAV_sound hm hx hl with ⟨A, cc, hv⟩ | ⟨s, e, _, _⟩
          · rw [hv]; exact StepOk.same hm (vrun (run_len_slc hk ts ht0 ty A n cc)) (.iv _ _ (.int _ _))
          · exact absurd e (hns s)
    · rename_i hk
      split at h
      · cases h
        rw [inv_str hx]
        exact StepOk.same hm (vrun (run_len_str hk ts ht0 ty _)) (.iv _ _ (.int _ _))
      · cases h
    · rename_i hk
      obtain ⟨⟨ks, vs⟩, hmp, h⟩ := omap_some h
      cases h
      obtain ⟨k, e, hu⟩ : ∃ k e, P.underlying t = some (.map k e) := by
        unfold tKind at hk
        split at hk <;> first | (cases hk; done) | skip
        exact ⟨_, _, by assumption⟩
      rcases mapOf_sound hm hx hmp with ⟨hv, rfl, rfl⟩ | ⟨b, es, clock, hv, q1, q2, q3, _⟩
      · rw [hv]
        exact StepOk.same hm (u := .int .i64 0) (vrun (by simp [Builtin.len_, ht0, run_underlying hu, goInt, Result.andThen])) (.iv _ _ (.int _ _))
      · rw [hv]
        refine StepOk.same hm (u := .int .i64 ks.length) (vrun ?_) (.iv _ _ (.int _ _))
        rw [← q3]
        simp [Builtin.len_, ht0, run_underlying hu, goInt, Result.andThen, getObj, Sem.run, q1]
    · cases h
  · -- append
    rename_i t t2 ts' s x hts hargs
    obtain ⟨a, a2, rfl⟩ : ∃ a a2, args = [a, a2] := by
      cases args with
      | nil => simp at hargs
      | cons a l => cases l with
        | nil => simp at hargs
        | cons a2 l => cases l with
          | nil => exact ⟨a, a2, rfl⟩
          | cons => simp at hargs
    simp only [List.map_cons, List.map_nil, List.cons.injEq, and_true] at hargs
    obtain ⟨e1, e2⟩ := hargs
    have ht0 : ts[0]? = some t := by rw [← Array.getElem?_toList, hts]; rfl
    have ht1 : ts[1]? = some t2 := by rw [← Array.getElem?_toList, hts]; rfl
    have main : ∀ (hk : NotInt P t2), (tElem P t).bind (fun e => (appendAV M e s x).map fun (v, M') => (Cls.w, v, M')) = some (c, v, M') →
        StepOk P X O w0 M ρ w v M' ((builtin .append ts ty cs ([a, a2].map rv).toArray).run P w) := by
      intro hk h
      cases he : tElem P t with
      | none => rw [he] at h; cases h
      | some e =>
        rw [he] at h
        simp only [Option.bind_some] at h
        cases ha : appendAV M e s x with
        | none => rw [ha] at h; cases h
        | some q =>
          rw [ha] at h; cases h
          exact step_append hm he ht0 ht1 hk (by rw [← e1]; exact hev a) (by rw [← e2]; exact hev a2) ha
    split at h
    · exact main (notInt_slc (by assumption)) h
    · exact main (notInt_str (by assumption)) h
    · cases h
  · -- min
    rename_i k a l hargs
    cases args with
    | nil => simp at hargs
    | cons o l' =>
      simp only [List.map_cons, List.cons.injEq] at hargs
      obtain ⟨e1, rfl⟩ := hargs
      cases hmn : minAll k a (l'.map ev) with
      | none => rw [hmn] at h; cases h
      | some cc =>
        rw [hmn] at h; cases h
        have hx := hev o
        rw [e1] at hx
        have := min_sound (P := P) (w := w) (l'.map ev) (l'.map rv) a cc (by simp) (args_rep hev l') hmn
        refine StepOk.same hm (vrun (u := .int k cc) ?_) (.iv _ _ (.int _ _))
        simp only [Builtin.min_, List.map_cons, inv_int hx]
        exact this
  · -- max
    rename_i k a l hargs
    cases args with
    | nil => simp at hargs
    | cons o l' =>
      simp only [List.map_cons, List.cons.injEq] at hargs
      obtain ⟨e1, rfl⟩ := hargs
      cases hmn : maxAll k a (l'.map ev) with
      | none => rw [hmn] at h; cases h
      | some cc =>
        rw [hmn] at h; cases h
        have hx := hev o
        rw [e1] at hx
        have := max_sound (P := P) (w := w) (l'.map ev) (l'.map rv) a cc (by simp) (args_rep hev l') hmn
        refine StepOk.same hm (vrun (u := .int k cc) ?_) (.iv _ _ (.int _ _))
        simp only [Builtin.max_, List.map_cons, inv_int hx]
        exact this
  · -- copy
    rename_i t ts' d x hts hargs
    obtain ⟨a, a2, rfl⟩ : ∃ a a2, args = [a, a2] := by
      cases args with
      | nil => simp at hargs
      | cons a l => cases l with
        | nil => simp at hargs
        | cons a2 l => cases l with
          | nil => exact ⟨a, a2, rfl⟩
          | cons => simp at hargs
    simp only [List.map_cons, List.map_nil, List.cons.injEq, and_true] at hargs
    obtain ⟨e1, e2⟩ := hargs
    have ht0 : ts[0]? = some t := by rw [← Array.getElem?_toList, hts]; rfl
    cases he : tElem P t with
    | none => rw [he] at h; cases h
    | some e =>
      rw [he] at h
      simp only [Option.bind_some] at h
      cases hys : elems M e.sz x with
      | none => rw [hys] at h; cases h
      | some ys =>
        rw [hys] at h
        simp only [Option.bind_some] at h
        split at h
        · rename_i k off len n
          split at h
          · rename_i T sz xs hM
            split at h
            · rename_i hc
              obtain ⟨h1, h2, rfl, rfl⟩ := hc
              cases h
              have hd := hev a
              have hx := hev a2
              rw [e1] at hd
              rw [e2] at hx
              exact step_copy hm he ht0 hd hx hM h1 h2 hys
            · cases h
          · cases h
        · cases h
  · cases h

theorem builtin_sound (hm : MemOk X O w0 M ρ w) (b : Builtin) (ts : Array TypeId) (ty : TypeId) (cs : Array Bool) (args : List Operand) (ev : Operand → AV) (rv : Operand → Value)
    (hev : ∀ x, RepA M ρ (excl X M ρ) w (ev x) (rv x)) {c : Cls} {v : AV} {M' : List MO} (h : builtinAV P b ts.toList (args.map ev) M = some (c, v, M')) :
    StepOk P X O w0 M ρ w v M' ((builtin b ts ty cs (args.map rv).toArray).run P w) := by
  unfold builtinAV at h
  split at h
  · unfold clearAV at h
    split at h
    · -- clear
      rename_i t ts' d hts hargs
      obtain ⟨a, rfl⟩ : ∃ a, args = [a] := by
        cases args with
        | nil => simp at hargs
        | cons a l => cases l with
          | nil => exact ⟨a, rfl⟩
          | cons => simp at hargs
      simp only [List.map_cons, List.map_nil, List.cons.injEq, and_true] at hargs
      have ht0 : ts[0]? = some t := by rw [← Array.getElem?_toList, hts]; rfl
      cases he : tElem P t with
      | none => rw [he] at h; cases h
      | some e =>
        rw [he] at h
        simp only [Option.bind_some] at h
        cases hz : constIV e.zero with
        | none => rw [hz] at h; cases h
        | some z =>
          rw [hz] at h
          simp only [Option.bind_some] at h
          split at h
          · rename_i k off len n
            split at h
            · rename_i T sz xs hM
              split at h
              · rename_i hc
                obtain ⟨h1, h2, rfl, rfl, h5⟩ := hc
                cases h
                have hd := hev a
                rw [hargs] at hd
                exact step_clear hm he ht0 hz h5 hd hM h1 h2
              · cases h
            · cases h
          · cases h
    · cases h
  · exact builtin0_sound hm _ ts ty cs args ev rv hev h

theorem option_map_some {α β : Type} {x : Option α} {f : α → β} {y : β} (h : x.map f = some y) : ∃ a, x = some a ∧ f a = y := by
  cases x with
  | none => cases h
  | some a => cases h; exact ⟨a, rfl, rfl⟩
theorem option_bind_some {α β : Type} {x : Option α} {f : α → Option β} {y : β} (h : x.bind f = some y) : ∃ a, x = some a ∧ f a = some y := by
  cases x with
  | none => cases h
  | some a => exact ⟨a, rfl, h⟩

theorem eff_move (hm : MemOk X O w0 M ρ w) (dst0 : Option Tmp) (type : TypeId) (pos : String) (after : Array Edge) (guard : Option (Nat × Bool)) (x : Operand) (ev : Operand → AV) (rv : Operand → Value) (hev : ∀ x, RepA M ρ (excl X M ρ) w (ev x) (rv x)) (hcn : ∀ v, rv (.const v) = v)
    {c : Cls} {v : AV} {M' : List MO} (h : eff P ⟨dst0, .move x, type, pos, after, guard⟩ ev M = some (c, v, M')) : StepOk P X O w0 M ρ w v M' ((execOp rv ⟨dst0, .move x, type, pos, after, guard⟩).run P w) := by
  cases h; exact StepOk.same hm rfl (hev x)

theorem eff_assign (hm : MemOk X O w0 M ρ w) (dst0 : Option Tmp) (type : TypeId) (pos : String) (after : Array Edge) (guard : Option (Nat × Bool)) (x : Operand) (ev : Operand → AV) (rv : Operand → Value) (hev : ∀ x, RepA M ρ (excl X M ρ) w (ev x) (rv x)) (hcn : ∀ v, rv (.const v) = v)
    {c : Cls} {v : AV} {M' : List MO} (h : eff P ⟨dst0, .assign x, type, pos, after, guard⟩ ev M = some (c, v, M')) : StepOk P X O w0 M ρ w v M' ((execOp rv ⟨dst0, .assign x, type, pos, after, guard⟩).run P w) := by
  simp only [eff] at h
  split at h
  · obtain ⟨e, he, h⟩ := option_map_some h
    cases h
    refine step_nilrow hm e.T e.sz (A := none) ?_
    simp only [execOp, hcn]
    rfl
  · cases h; exact StepOk.same hm rfl (hev x)

theorem eff_pick (hm : MemOk X O w0 M ρ w) (dst0 : Option Tmp) (type : TypeId) (pos : String) (after : Array Edge) (guard : Option (Nat × Bool)) (cc a b : Operand) (ev : Operand → AV) (rv : Operand → Value) (hev : ∀ x, RepA M ρ (excl X M ρ) w (ev x) (rv x)) (hcn : ∀ v, rv (.const v) = v)
    {c : Cls} {v : AV} {M' : List MO} (h : eff P ⟨dst0, .pick cc a b, type, pos, after, guard⟩ ev M = some (c, v, M')) : StepOk P X O w0 M ρ w v M' ((execOp rv ⟨dst0, .pick cc a b, type, pos, after, guard⟩).run P w) := by
  simp only [eff] at h
  split at h
  · rename_i t ht
    cases h
    have hc := hev cc
    rw [ht] at hc
    refine StepOk.same hm (u := if t then rv a else rv b) ?_ (by cases t <;> simp <;> exact hev _)
    simp [execOp, inv_bool hc, asBool]
  · cases h

theorem rep_zcells {E : Nat → Prop} {z : Value} {cs : List AV} (h : zcells z = some cs) : z.cells.size = cs.length ∧ ∀ (i : Nat) (y : AV) (u : Value), cs[i]? = some y → z.cells[i]? = some u → RepA M ρ E w y u := by
  unfold zcells at h
  split at h
  · cases h
    refine ⟨rfl, fun i y u hy hu => ?_⟩
    match i, hy with
    | 0, hy => cases hy; exact .any _
  · exact rep_cells (rep_constAV z) h
theorem eff_alloc (hm : MemOk X O w0 M ρ w) (dst0 : Option Tmp) (type : TypeId) (pos : String) (after : Array Edge) (guard : Option (Nat × Bool)) (T : TypeId) (ev : Operand → AV) (rv : Operand → Value) (hev : ∀ x, RepA M ρ (excl X M ρ) w (ev x) (rv x)) (hcn : ∀ v, rv (.const v) = v)
    {c : Cls} {v : AV} {M' : List MO} (h : eff P ⟨dst0, .alloc T, type, pos, after, guard⟩ ev M = some (c, v, M')) : StepOk P X O w0 M ρ w v M' ((execOp rv ⟨dst0, .alloc T, type, pos, after, guard⟩).run P w) := by
  simp only [eff] at h
  obtain ⟨z, hz, h⟩ := option_bind_some h
  obtain ⟨cs, hcs, h⟩ := option_map_some h
  cases h
  unfold tZero at hz
  obtain ⟨i, hi, hiz⟩ := option_bind_some hz
  obtain ⟨h1, h2⟩ := rep_zcells (M := M) (ρ := ρ) (E := excl X M ρ) (w := w) hcs
  refine step_newvar hm T h1 h2 (w' := w.alloc (.cells z.cells T)) (News.alloc w _) ?_
  simp [execOp, Instr.alloc, run_zeroValue hi hiz, newVar, newRow]

theorem eff_box (hm : MemOk X O w0 M ρ w) (dst0 : Option Tmp) (type : TypeId) (pos : String) (after : Array Edge) (guard : Option (Nat × Bool)) (T : TypeId) (x : Operand) (ev : Operand → AV) (rv : Operand → Value) (hev : ∀ x, RepA M ρ (excl X M ρ) w (ev x) (rv x)) (hcn : ∀ v, rv (.const v) = v)
    {c : Cls} {v : AV} {M' : List MO} (h : eff P ⟨dst0, .box T x, type, pos, after, guard⟩ ev M = some (c, v, M')) : StepOk P X O w0 M ρ w v M' ((execOp rv ⟨dst0, .box T x, type, pos, after, guard⟩).run P w) := by
  simp only [eff] at h
  obtain ⟨cs, hcs, h⟩ := option_map_some h
  cases h
  obtain ⟨h1, h2⟩ := rep_cells (hev x) hcs
  refine step_newvar hm T h1 h2 (w' := w.alloc (.cells (rv x).cells T)) (News.alloc w _) ?_
  simp [execOp, Instr.box, newVar, newRow]

theorem eff_build (hm : MemOk X O w0 M ρ w) (dst0 : Option Tmp) (type : TypeId) (pos : String) (after : Array Edge) (guard : Option (Nat × Bool)) (t : TypeId) (parts : Array (Nat × Operand)) (ev : Operand → AV) (rv : Operand → Value) (hev : ∀ x, RepA M ρ (excl X M ρ) w (ev x) (rv x)) (hcn : ∀ v, rv (.const v) = v)
    {c : Cls} {v : AV} {M' : List MO} (h : eff P ⟨dst0, .build t parts, type, pos, after, guard⟩ ev M = some (c, v, M')) : StepOk P X O w0 M ρ w v M' ((execOp rv ⟨dst0, .build t parts, type, pos, after, guard⟩).run P w) := by
  simp only [eff] at h
  obtain ⟨z, hz, h⟩ := option_bind_some h
  obtain ⟨cs, hcs, h⟩ := option_bind_some h
  obtain ⟨pl, hpl, h⟩ := option_bind_some h
  obtain ⟨r, hr, h⟩ := option_map_some h
  cases h
  obtain ⟨h1, h2⟩ := rep_cells (rep_constAV (M := M) (ρ := ρ) (E := excl X M ρ) (w := w) z) hcs
  obtain ⟨us, k1, k2, k3⟩ := fill_sound (M := M) (ρ := ρ) (E := excl X M ρ) (w := w) (parts.toList.map fun (i, x) => (i, ev x)) (parts.toList.map fun (i, x) => (i, rv x)) cs r z.cells h1 h2 (by simp)
    (fun i p q hp hq => by
      obtain ⟨a, g1, rfl⟩ := map_get hp
      obtain ⟨b, g2, rfl⟩ := map_get hq
      rw [g1] at g2; cases g2
      exact ⟨rfl, hev _⟩) hr
  refine StepOk.same hm (u := .agg us) ?_ (rep_mkAgg k2 k3)
  have := run_build (P := P) (w := w) (parts := parts.map fun (i, x) => (i, rv x)) hz hpl (us := us) (by rw [Array.toList_map]; exact k1)
  exact vrun this

theorem eff_buildSlice (hm : MemOk X O w0 M ρ w) (dst0 : Option Tmp) (type : TypeId) (pos : String) (after : Array Edge) (guard : Option (Nat × Bool)) (t : TypeId) (len : Nat) (parts : Array (Nat × Operand)) (ev : Operand → AV) (rv : Operand → Value) (hev : ∀ x, RepA M ρ (excl X M ρ) w (ev x) (rv x)) (hcn : ∀ v, rv (.const v) = v)
    {c : Cls} {v : AV} {M' : List MO} (h : eff P ⟨dst0, .buildSlice t len parts, type, pos, after, guard⟩ ev M = some (c, v, M')) : StepOk P X O w0 M ρ w v M' ((execOp rv ⟨dst0, .buildSlice t len parts, type, pos, after, guard⟩).run P w) := by
  simp only [eff] at h
  obtain ⟨e, he, h⟩ := option_bind_some h
  obtain ⟨z, hz, h⟩ := option_bind_some h
  split at h
  · rename_i hc
    obtain ⟨q, hq, h⟩ := option_bind_some h
    obtain ⟨ps, M1⟩ := q
    simp only at h
    split at h
    · rename_i hall
      obtain ⟨xs, hxs, h⟩ := option_map_some h
      cases h
      have hps : ∀ (i : Nat) (p : Nat × AV) (q : Nat × Value), (parts.toList.map fun (i, x) => (i, ev x))[i]? = some p → (parts.map fun (i, x) => (i, rv x))[i]? = some q → p.1 = q.1 ∧ RepA M ρ (excl X M ρ) w p.2 q.2 := by
        intro i p q hp hq
        obtain ⟨a, g1, rfl⟩ := map_get hp
        rw [Array.getElem?_map] at hq
        rw [Array.getElem?_toList] at g1
        rw [g1] at hq; cases hq
        exact ⟨rfl, hev _⟩
      have hl : (parts.map fun (i, x) => (i, rv x)).size = (parts.toList.map fun (i, x) => (i, ev x)).length := by simp
      have := step_buildSlice (P := P) hm he hz hc.1 hc.2 hl hps hq hall hxs
      simp only [execOp]
      exact this
    · cases h
  · cases h

theorem eff_load (hm : MemOk X O w0 M ρ w) (dst0 : Option Tmp) (type : TypeId) (pos : String) (after : Array Edge) (guard : Option (Nat × Bool)) (t : TypeId) (a : Operand) (ev : Operand → AV) (rv : Operand → Value) (hev : ∀ x, RepA M ρ (excl X M ρ) w (ev x) (rv x)) (hcn : ∀ v, rv (.const v) = v)
    {c : Cls} {v : AV} {M' : List MO} (h : eff P ⟨dst0, .load t a, type, pos, after, guard⟩ ev M = some (c, v, M')) : StepOk P X O w0 M ρ w v M' ((execOp rv ⟨dst0, .load t a, type, pos, after, guard⟩).run P w) := by
  simp only [eff] at h
  obtain ⟨ag, hag, h⟩ := option_bind_some h
  have ha := hev a
  split at h
  · rename_i k off he
    rw [he] at ha
    split at h
    · rename_i T cs hM
      obtain ⟨r, hr, h⟩ := option_map_some h
      cases h
      obtain ⟨u, h1, h2⟩ := load_var hm hag ha hM hr
      exact StepOk.same hm (vrun h1) h2
    · cases h
  · rename_i k n i c he
    rw [he] at ha
    obtain ⟨⟨m, T, sz, xs⟩, hr, h⟩ := option_bind_some h
    obtain ⟨x, hx, h⟩ := option_bind_some h
    obtain ⟨r, hr2, h⟩ := option_map_some h
    cases h
    obtain ⟨u, h1, h2⟩ := load_row hm hag ha hr hx hr2
    exact StepOk.same hm (vrun h1) (.iv _ _ h2)
  · rename_i sz xs i c he
    rw [he] at ha
    obtain ⟨x, hx, h⟩ := option_bind_some h
    obtain ⟨r, hr2, h⟩ := option_map_some h
    cases h
    obtain ⟨u, h1, h2⟩ := load_ip hag ha hx hr2
    exact StepOk.same hm (vrun h1) (.iv _ _ h2)
  · cases h

theorem eff_store (hm : MemOk X O w0 M ρ w) (dst0 : Option Tmp) (type : TypeId) (pos : String) (after : Array Edge) (guard : Option (Nat × Bool)) (t : TypeId) (a x : Operand) (ev : Operand → AV) (rv : Operand → Value) (hev : ∀ x, RepA M ρ (excl X M ρ) w (ev x) (rv x)) (hcn : ∀ v, rv (.const v) = v)
    {c : Cls} {v : AV} {M' : List MO} (h : eff P ⟨dst0, .store t a x, type, pos, after, guard⟩ ev M = some (c, v, M')) : StepOk P X O w0 M ρ w v M' ((execOp rv ⟨dst0, .store t a x, type, pos, after, guard⟩).run P w) := by
  simp only [eff] at h
  obtain ⟨n, hn, h⟩ := option_bind_some h
  have ha := hev a
  split at h
  · rename_i k off he
    rw [he] at ha
    split at h
    · rename_i T cs hM
      obtain ⟨ys, hys, h⟩ := option_bind_some h
      split at h
      · rename_i hc
        cases h
        exact step_storevar hm hn ha (hev x) hM hys hc.1 hc.2.1 hc.2.2
      · cases h
    · cases h
  · rename_i k m i c he
    rw [he] at ha
    obtain ⟨⟨y, M1⟩, hy, h⟩ := option_bind_some h
    simp only at h
    split at h
    · rename_i T sz xs hM
      split at h
      · rename_i hc
        obtain ⟨old, hold, h⟩ := option_bind_some h
        obtain ⟨z, hz, h⟩ := option_map_some h
        cases h
        exact step_storerow hm hn ha (hev x) hy hM hc.1 hc.2 hold hz
      · cases h
    · cases h
  · cases h

theorem eff_nilCheck (hm : MemOk X O w0 M ρ w) (dst0 : Option Tmp) (type : TypeId) (pos : String) (after : Array Edge) (guard : Option (Nat × Bool)) (x : Operand) (ev : Operand → AV) (rv : Operand → Value) (hev : ∀ x, RepA M ρ (excl X M ρ) w (ev x) (rv x)) (hcn : ∀ v, rv (.const v) = v)
    {c : Cls} {v : AV} {M' : List MO} (h : eff P ⟨dst0, .nilCheck x, type, pos, after, guard⟩ ev M = some (c, v, M')) : StepOk P X O w0 M ρ w v M' ((execOp rv ⟨dst0, .nilCheck x, type, pos, after, guard⟩).run P w) := by
  simp only [eff] at h
  have hx := hev x
  split at h
  · rename_i k off he
    cases h
    rw [he] at hx
    obtain ⟨T, cs, b, h1, hb, hv⟩ := inv_mp hx
    refine StepOk.same hm (u := rv x) ?_ hx
    simp only [execOp, hv]; rfl
  · rename_i sz xs i c he
    cases h
    rw [he] at hx
    refine StepOk.same hm (u := rv x) ?_ hx
    generalize hv : rv x = vv at hx
    cases hx
    simp only [execOp, hv]; rfl
  · rename_i k n i c he
    obtain ⟨⟨m, T, sz, xs⟩, hr, h⟩ := option_map_some h
    cases h
    rw [he] at hx
    obtain ⟨hM, hn⟩ := rowAt_spec hr
    obtain ⟨b, hb, hv⟩ := rp_spec hx hM hn
    refine StepOk.same hm (u := rv x) ?_ hx
    simp only [execOp, hv]; rfl
  · rename_i f cs he
    cases h
    rw [he] at hx
    refine StepOk.same hm (u := rv x) ?_ hx
    generalize hv : rv x = vv at hx
    cases hx
    simp only [execOp, hv]; rfl
  · rename_i f he
    cases h
    rw [he] at hx
    refine StepOk.same hm (u := rv x) ?_ hx
    simp only [execOp, inv_fnc hx]; rfl
  · cases h

theorem equalIn_slice_nil {t e : TypeId} (h : P.underlying t = some (.slice e)) (a : Addr) (n c : Nat) (d : Nat) : (Op.equalIn (d + 1) t (.slice (some a) n c) (.slice none 0 0)).run P w = .ok false w := by
  simp [Op.equalIn, run_underlying h]
theorem equal_slice_nil {t e : TypeId} (h : P.underlying t = some (.slice e)) (a : Addr) (n c : Nat) : (Op.equal t (.slice (some a) n c) (.slice none 0 0)).run P w = .ok false w := equalIn_slice_nil h a n c 9999

theorem eff_binOp (hm : MemOk X O w0 M ρ w) (dst0 : Option Tmp) (type : TypeId) (pos : String) (after : Array Edge) (guard : Option (Nat × Bool)) (op : BinOp) (t : TypeId) (x y : Operand) (yt : TypeId) (ev : Operand → AV) (rv : Operand → Value) (hev : ∀ x, RepA M ρ (excl X M ρ) w (ev x) (rv x)) (hcn : ∀ v, rv (.const v) = v)
    {c : Cls} {v : AV} {M' : List MO} (h : eff P ⟨dst0, .binOp op t x y yt, type, pos, after, guard⟩ ev M = some (c, v, M')) : StepOk P X O w0 M ρ w v M' ((execOp rv ⟨dst0, .binOp op t x y yt, type, pos, after, guard⟩).run P w) := by
  simp only [eff] at h
  cases hn : nilCmp P op t y (ev x) with
  | some b =>
    rw [hn] at h
    cases h
    unfold nilCmp at hn
    split at hn
    · split at hn
      · rename_i sz xs hk hxe
        split at hn
        · rename_i hpos
          obtain ⟨e, he⟩ := tKind_slc hk
          have hx := hev x
          rw [hxe] at hx
          obtain ⟨A, n, cc, hrx⟩ : ∃ A n cc, rv x = .slice (some A) n cc := by
            cases hx with
            | iv _ _ hi =>
              generalize rv x = vv at hi
              cases hi with
              | sl0 => simp at hpos
              | sl _ _ bb oo cc => exact ⟨_, _, _, rfl⟩
          have heq : (Op.equal t (.slice (some A) n cc) (.slice none 0 0)).run P w = .ok false w := by
            exact equal_slice_nil he A n cc
          split at hn
          · cases hn
            refine StepOk.same hm (u := .bool false) (vrun ?_) (.iv _ _ (.bool _))
            rw [hrx, hcn, eqGuard_at_slice]
            simp [binOp, heq]
          · cases hn
            refine StepOk.same hm (u := .bool true) (vrun ?_) (.iv _ _ (.bool _))
            rw [hrx, hcn, eqGuard_at_slice]
            simp [binOp, heq]
          · cases hn
        · cases hn
      · cases hn
    · cases hn
  | none =>
    rw [hn] at h
    obtain ⟨r, hr, h⟩ := option_map_some h
    cases h
    obtain ⟨z, h1, h2⟩ := binAV_sound (P := P) x y (hev x) (hev y) hr
    exact StepOk.same hm (vrun h1) (.iv _ _ h2)

theorem eff_unOp (hm : MemOk X O w0 M ρ w) (dst0 : Option Tmp) (type : TypeId) (pos : String) (after : Array Edge) (guard : Option (Nat × Bool)) (op : UnOp) (t : TypeId) (x : Operand) (ev : Operand → AV) (rv : Operand → Value) (hev : ∀ x, RepA M ρ (excl X M ρ) w (ev x) (rv x)) (hcn : ∀ v, rv (.const v) = v)
    {c : Cls} {v : AV} {M' : List MO} (h : eff P ⟨dst0, .unOp op t x, type, pos, after, guard⟩ ev M = some (c, v, M')) : StepOk P X O w0 M ρ w v M' ((execOp rv ⟨dst0, .unOp op t x, type, pos, after, guard⟩).run P w) := by
  simp only [eff] at h
  obtain ⟨r, hr, h⟩ := option_map_some h
  cases h
  obtain ⟨z, h1, h2⟩ := unAV_sound (P := P) (hev x) hr
  exact StepOk.same hm (vrun h1) (.iv _ _ h2)

theorem eff_convert (hm : MemOk X O w0 M ρ w) (dst0 : Option Tmp) (type : TypeId) (pos : String) (after : Array Edge) (guard : Option (Nat × Bool)) (src dst : TypeId) (x : Operand) (ev : Operand → AV) (rv : Operand → Value) (hev : ∀ x, RepA M ρ (excl X M ρ) w (ev x) (rv x)) (hcn : ∀ v, rv (.const v) = v)
    {c : Cls} {v : AV} {M' : List MO} (h : eff P ⟨dst0, .convert src dst x, type, pos, after, guard⟩ ev M = some (c, v, M')) : StepOk P X O w0 M ρ w v M' ((execOp rv ⟨dst0, .convert src dst x, type, pos, after, guard⟩).run P w) := by
  simp only [eff] at h
  split at h
  · rename_i r hr
    cases h
    obtain ⟨_, rfl, z, h1, h2⟩ := convAV_sound (P := P) (hev x) hr
    exact StepOk.same hm (vrun h1) h2
  · obtain ⟨_, rfl, z, h1, h2⟩ := strOf_sound (P := P) hm (hev x) h
    exact StepOk.same hm (vrun h1) h2

theorem eff_makeFunc (hm : MemOk X O w0 M ρ w) (dst0 : Option Tmp) (type : TypeId) (pos : String) (after : Array Edge) (guard : Option (Nat × Bool)) (fn : Fn) (first caps : Array Operand) (ev : Operand → AV) (rv : Operand → Value) (hev : ∀ x, RepA M ρ (excl X M ρ) w (ev x) (rv x)) (hcn : ∀ v, rv (.const v) = v)
    {c : Cls} {v : AV} {M' : List MO} (h : eff P ⟨dst0, .makeFunc fn first caps, type, pos, after, guard⟩ ev M = some (c, v, M')) : StepOk P X O w0 M ρ w v M' ((execOp rv ⟨dst0, .makeFunc fn first caps, type, pos, after, guard⟩).run P w) := by
  cases fn with
  | func f =>
    simp only [eff] at h
    split at h
    · rename_i hf
      have hf : first = #[] := by simpa using hf
      cases h
      refine StepOk.same hm (u := .func (.func f) #[] (caps.map rv)) (by simp [execOp, Instr.makeFunc, hf]) ?_
      split
      · rename_i hc
        have hc : caps = #[] := by simpa using hc
        subst hc
        rw [Array.map_empty]
        exact .iv _ _ (.fnc f)
      · refine .fn f _ _ (by simp) (fun i y z hy hz => ?_)
        obtain ⟨a, g1, rfl⟩ := map_get hy
        rw [Array.getElem?_map] at hz
        rw [Array.getElem?_toList] at g1
        rw [g1] at hz; cases hz
        exact hev a
    · cases h
  | _ => cases h

theorem eff_makeSlice (hm : MemOk X O w0 M ρ w) (dst0 : Option Tmp) (type : TypeId) (pos : String) (after : Array Edge) (guard : Option (Nat × Bool)) (t : TypeId) (l cc : Operand) (ev : Operand → AV) (rv : Operand → Value) (hev : ∀ x, RepA M ρ (excl X M ρ) w (ev x) (rv x)) (hcn : ∀ v, rv (.const v) = v)
    {c : Cls} {v : AV} {M' : List MO} (h : eff P ⟨dst0, .makeSlice t l cc, type, pos, after, guard⟩ ev M = some (c, v, M')) : StepOk P X O w0 M ρ w v M' ((execOp rv ⟨dst0, .makeSlice t l cc, type, pos, after, guard⟩).run P w) := by
  simp only [eff] at h
  split at h
  · rename_i k n k' m h1 h2
    obtain ⟨e, he, hA⟩ := option_bind_some h
    obtain ⟨z, hz, hB⟩ := option_bind_some hA
    clear h hA
    split at hB
    · rename_i hc
      obtain ⟨g0, g3, g1, g2⟩ := hc
      cases hB
      subst g3
      have hl := hev l
      have hcc := hev cc
      rw [h1] at hl
      rw [h2] at hcc
      simp only [execOp, inv_int hl, inv_int hcc]
      exact step_make hm he hz g2 g0 g1
    · cases hB
  · cases h

theorem eff_slice (hm : MemOk X O w0 M ρ w) (dst0 : Option Tmp) (type : TypeId) (pos : String) (after : Array Edge) (guard : Option (Nat × Bool)) (t : TypeId) (x : Operand) (lo hi mx : Option Operand) (ev : Operand → AV) (rv : Operand → Value) (hev : ∀ x, RepA M ρ (excl X M ρ) w (ev x) (rv x)) (hcn : ∀ v, rv (.const v) = v)
    {c : Cls} {v : AV} {M' : List MO} (h : eff P ⟨dst0, .slice t x lo hi mx, type, pos, after, guard⟩ ev M = some (c, v, M')) : StepOk P X O w0 M ρ w v M' ((execOp rv ⟨dst0, .slice t x lo hi mx, type, pos, after, guard⟩).run P w) := by
  simp only [eff] at h
  split at h
  · cases h
  · rename_i hmx
    obtain ⟨r, hr, h⟩ := option_map_some h
    cases h
    obtain ⟨u, h1, h2⟩ := sliceAV_sound (P := P) hm hev hr (fun hs => by
      cases hh : hi.isSome with
      | true => rfl
      | false => exact absurd ⟨hs, hh⟩ hmx)
    exact StepOk.same hm (vrun h1) h2

theorem eff_fieldAddr (hm : MemOk X O w0 M ρ w) (dst0 : Option Tmp) (type : TypeId) (pos : String) (after : Array Edge) (guard : Option (Nat × Bool)) (s : TypeId) (x : Operand) (f : Nat) (ev : Operand → AV) (rv : Operand → Value) (hev : ∀ x, RepA M ρ (excl X M ρ) w (ev x) (rv x)) (hcn : ∀ v, rv (.const v) = v)
    {c : Cls} {v : AV} {M' : List MO} (h : eff P ⟨dst0, .fieldAddr s x f, type, pos, after, guard⟩ ev M = some (c, v, M')) : StepOk P X O w0 M ρ w v M' ((execOp rv ⟨dst0, .fieldAddr s x f, type, pos, after, guard⟩).run P w) := by
  simp only [eff] at h
  obtain ⟨⟨off, ft⟩, ht, h⟩ := option_bind_some h
  have hx := hev x
  simp only at h
  split at h
  · rename_i k o he
    cases h
    rw [he] at hx
    obtain ⟨T, cs, b, h1, hb, hv⟩ := inv_mp hx
    refine StepOk.same hm (u := .pointer (some ⟨b, o + off, none⟩)) ?_ (.mp _ _ T cs b h1 hb)
    simp only [execOp, hv]
    exact vrun (by rw [run_fieldAt ht, Addr.add_lit])
  · rename_i sz xs i c he
    cases h
    rw [he] at hx
    generalize hv : rv x = vv at hx
    cases hx with
    | ip _ _ _ _ b o cap hr hi =>
      refine StepOk.same hm (u := .pointer (some ⟨b, o + (i * sz + (c + off)), none⟩)) ?_ (.ip _ _ _ _ b o cap hr hi)
      simp only [execOp, hv]
      exact vrun (by rw [run_fieldAt ht, Addr.add_lit, Nat.add_assoc, Nat.add_assoc])
  · rename_i k n i c he
    obtain ⟨⟨m, T, sz, xs⟩, hr, h⟩ := option_map_some h
    cases h
    rw [he] at hx
    obtain ⟨hM, hn⟩ := rowAt_spec hr
    obtain ⟨b, hb, hv⟩ := rp_spec hx hM hn
    refine StepOk.same hm (u := .pointer (some ⟨b, i * sz + (c + off), none⟩)) ?_ (.rp _ _ _ _ _ m T sz xs hM (by omega) ⟨_, rfl⟩ (fun _ => ⟨b, hb, rfl⟩))
    simp only [execOp, hv]
    exact vrun (by rw [run_fieldAt ht, Addr.add_lit, Nat.add_assoc])
  · cases h

theorem eff_field (hm : MemOk X O w0 M ρ w) (dst0 : Option Tmp) (type : TypeId) (pos : String) (after : Array Edge) (guard : Option (Nat × Bool)) (s : TypeId) (x : Operand) (f : Nat) (ev : Operand → AV) (rv : Operand → Value) (hev : ∀ x, RepA M ρ (excl X M ρ) w (ev x) (rv x)) (hcn : ∀ v, rv (.const v) = v)
    {c : Cls} {v : AV} {M' : List MO} (h : eff P ⟨dst0, .field s x f, type, pos, after, guard⟩ ev M = some (c, v, M')) : StepOk P X O w0 M ρ w v M' ((execOp rv ⟨dst0, .field s x f, type, pos, after, guard⟩).run P w) := by
  simp only [eff] at h
  obtain ⟨⟨off, ft⟩, ht, h⟩ := option_bind_some h
  obtain ⟨ag, hag, h⟩ := option_bind_some h
  have hx := hev x
  split at h
  · rename_i cs he
    obtain ⟨r, hr, h⟩ := option_map_some h
    cases h
    rw [he] at hx
    obtain ⟨vs, hv, hl, hc⟩ := inv_ivagg hx
    obtain ⟨u, h1, h2⟩ := elemPart_part (P := P) hag hr hl hc
    simp only [execOp, hv]
    exact StepOk.same hm (vrun (run_field ht h1)) (.iv _ _ h2)
  · rename_i cs he
    obtain ⟨r, hr, h⟩ := option_map_some h
    cases h
    rw [he] at hx
    obtain ⟨vs, hv, hl, hc⟩ := inv_agg hx
    obtain ⟨u, h1, h2⟩ := varPart_part (P := P) hag hr hl hc
    simp only [execOp, hv]
    exact StepOk.same hm (vrun (run_field ht h1)) h2
  · cases h

theorem eff_indexAddr (hm : MemOk X O w0 M ρ w) (dst0 : Option Tmp) (type : TypeId) (pos : String) (after : Array Edge) (guard : Option (Nat × Bool)) (t : TypeId) (x i : Operand) (ev : Operand → AV) (rv : Operand → Value) (hev : ∀ x, RepA M ρ (excl X M ρ) w (ev x) (rv x)) (hcn : ∀ v, rv (.const v) = v)
    {c : Cls} {v : AV} {M' : List MO} (h : eff P ⟨dst0, .indexAddr t x i, type, pos, after, guard⟩ ev M = some (c, v, M')) : StepOk P X O w0 M ρ w v M' ((execOp rv ⟨dst0, .indexAddr t x i, type, pos, after, guard⟩).run P w) := by
  simp only [eff] at h
  obtain ⟨j, hj, h⟩ := option_bind_some h
  obtain ⟨kj, hvj⟩ := idx_spec (hev i) hj
  have hx := hev x
  split at h
  · rename_i sz xs he
    obtain ⟨e, het, h⟩ := option_bind_some h
    split at h
    · rename_i hc
      obtain ⟨g0, g1, rfl⟩ := hc
      cases h
      rw [he] at hx
      cases hx with
      | iv _ _ hx =>
        obtain ⟨A, cap, hv, hcap, hh⟩ := inv_rep_sl hx
        rw [hv] at hx
        rcases hh with rfl | ⟨b, o, rfl, _⟩
        · simp at g1; omega
        · simp only [execOp, hv, hvj]
          refine StepOk.same hm (vrun (run_indexAt het b o xs.length cap kj j g0 g1)) ?_
          exact .ip _ _ j.toNat 0 b o cap hx (by omega)
    · cases h
  · rename_i k off len n he
    obtain ⟨e, het, h⟩ := option_bind_some h
    obtain ⟨⟨m, T, sz, xs⟩, hr, h⟩ := option_bind_some h
    simp only at h
    split at h
    · rename_i hc
      obtain ⟨g0, g1, rfl⟩ := hc
      cases h
      rw [he] at hx
      obtain ⟨hM, hn⟩ := rowAt_spec hr
      obtain ⟨g2, A, cap, hv, hlc, g3⟩ := msl_spec hx hM hn
      cases hk : ρ k with
      | none => rw [hk] at g3; omega
      | some b =>
        rw [hk] at g3
        have hA := g3.1 (by omega)
        subst hA
        simp only [execOp, hv, hvj]
        refine StepOk.same hm (vrun (run_indexAt het b (off * e.sz) len cap kj j g0 g1)) ?_
        exact .rp _ _ _ _ _ m T e.sz xs hM (by omega) ⟨_, rfl⟩ (fun _ => ⟨b, hk, by rw [Nat.add_mul, Nat.add_zero]⟩)
    · cases h
  · rename_i k off he
    obtain ⟨⟨n, et, sz⟩, hta, h⟩ := option_bind_some h
    simp only at h
    split at h
    · rename_i hc
      cases h
      rw [he] at hx
      obtain ⟨T, cs, b, h1, hb, hv⟩ := inv_mp hx
      simp only [execOp, hv, hvj]
      exact StepOk.same hm (vrun (run_indexAt_arr hta b off kj j hc.1 hc.2)) (.mp _ _ T cs b h1 hb)
    · cases h
  · cases h

theorem eff_index (hm : MemOk X O w0 M ρ w) (dst0 : Option Tmp) (type : TypeId) (pos : String) (after : Array Edge) (guard : Option (Nat × Bool)) (t : TypeId) (x i : Operand) (ev : Operand → AV) (rv : Operand → Value) (hev : ∀ x, RepA M ρ (excl X M ρ) w (ev x) (rv x)) (hcn : ∀ v, rv (.const v) = v)
    {c : Cls} {v : AV} {M' : List MO} (h : eff P ⟨dst0, .index t x i, type, pos, after, guard⟩ ev M = some (c, v, M')) : StepOk P X O w0 M ρ w v M' ((execOp rv ⟨dst0, .index t x i, type, pos, after, guard⟩).run P w) := by
  simp only [eff] at h
  obtain ⟨j, hj, h⟩ := option_bind_some h
  obtain ⟨kj, hvj⟩ := idx_spec (hev i) hj
  have hx := hev x
  split at h
  · rename_i s he
    split at h
    · rename_i hk
      have hk : tKind P t = some .str := by
        cases ht : tKind P t with
        | none => rw [ht] at hk; cases hk
        | some d => cases d <;> rw [ht] at hk <;> first | rfl | cases hk
      by_cases hc : 0 ≤ j ∧ j < (s.size : Int)
      · rw [if_pos hc] at h
        cases h
        rw [he] at hx
        simp only [execOp, inv_str hx, hvj]
        exact StepOk.same hm (vrun (run_index_str hk s kj j hc.1 hc.2)) (.iv _ _ (.int _ _))
      · rw [if_neg hc] at h; cases h
    · cases h
  · rename_i cs he
    obtain ⟨⟨n, et, sz⟩, hta, h⟩ := option_bind_some h
    obtain ⟨ag, hag, h⟩ := option_bind_some h
    split at h
    · rename_i hc
      obtain ⟨r, hr, h⟩ := option_map_some h
      cases h
      rw [he] at hx
      obtain ⟨vs, hv, hl, hcc⟩ := inv_ivagg hx
      obtain ⟨u, h1, h2⟩ := elemPart_part (P := P) hag hr hl hcc
      simp only [execOp, hv, hvj]
      exact StepOk.same hm (vrun (run_index_arr hta kj j hc.1 hc.2 h1)) (.iv _ _ h2)
    · cases h
  · cases h

theorem eff_extract (hm : MemOk X O w0 M ρ w) (dst0 : Option Tmp) (type : TypeId) (pos : String) (after : Array Edge) (guard : Option (Nat × Bool)) (x : Operand) (i : Nat) (ev : Operand → AV) (rv : Operand → Value) (hev : ∀ x, RepA M ρ (excl X M ρ) w (ev x) (rv x)) (hcn : ∀ v, rv (.const v) = v)
    {c : Cls} {v : AV} {M' : List MO} (h : eff P ⟨dst0, .extract x i, type, pos, after, guard⟩ ev M = some (c, v, M')) : StepOk P X O w0 M ρ w v M' ((execOp rv ⟨dst0, .extract x i, type, pos, after, guard⟩).run P w) := by
  simp only [eff] at h
  have hx := hev x
  split at h
  · rename_i vs he
    obtain ⟨r, hr, h⟩ := option_map_some h
    cases h
    rw [he] at hx
    cases hx with
    | iv _ _ hx =>
      obtain ⟨us, hv, hl, hc⟩ := inv_rep_tup hx
      have hlt := lt_of_get hr
      have hu : us[i]? = some (us[i]'(by omega)) := Array.getElem?_eq_getElem (by omega)
      refine StepOk.same hm (u := us[i]'(by omega)) ?_ (.iv _ _ (hc i _ _ hr hu))
      simp [execOp, hv, Instr.extract, hu]
  · rename_i vs he
    obtain ⟨r, hr, h⟩ := option_map_some h
    cases h
    rw [he] at hx
    generalize hv : rv x = vv at hx
    cases hx with
    | tup _ us hl hc =>
      have hlt := lt_of_get hr
      have hu : us[i]? = some (us[i]'(by omega)) := Array.getElem?_eq_getElem (by omega)
      refine StepOk.same hm (u := us[i]'(by omega)) ?_ (hc i _ _ hr hu)
      simp [execOp, hv, Instr.extract, hu]
  · cases h

theorem eff_call (hm : MemOk X O w0 M ρ w) (dst0 : Option Tmp) (type : TypeId) (pos : String) (after : Array Edge) (guard : Option (Nat × Bool)) (cl : Call) (ev : Operand → AV) (rv : Operand → Value) (hev : ∀ x, RepA M ρ (excl X M ρ) w (ev x) (rv x)) (hcn : ∀ v, rv (.const v) = v)
    {c : Cls} {v : AV} {M' : List MO} (h : eff P ⟨dst0, .call cl, type, pos, after, guard⟩ ev M = some (c, v, M')) : StepOk P X O w0 M ρ w v M' ((execOp rv ⟨dst0, .call cl, type, pos, after, guard⟩).run P w) := by
  simp only [eff] at h
  split at h
  · rename_i b hb
    have := builtin_sound (P := P) hm b cl.argTypes type (cl.args.map fun | .const _ => true | _ => false) cl.args.toList ev rv hev h
    simp only [execOp, resolve, hb]
    have e : (cl.args.toList.map rv).toArray = cl.args.map rv := by rw [← Array.toList_map]
    rw [e] at this
    exact this
  · cases h

theorem eff_sound (hm : MemOk X O w0 M ρ w) (o : Oper) (ev : Operand → AV) (rv : Operand → Value) (hev : ∀ x, RepA M ρ (excl X M ρ) w (ev x) (rv x)) (hcn : ∀ v, rv (.const v) = v) {c : Cls} {v : AV} {M' : List MO} (h : eff P o ev M = some (c, v, M')) :
    StepOk P X O w0 M ρ w v M' ((execOp rv o).run P w) := by
  obtain ⟨dst, op, type, pos, after, guard⟩ := o
  cases op with
  | move x0 => exact eff_move hm dst type pos after guard x0 ev rv hev hcn h
  | assign x0 => exact eff_assign hm dst type pos after guard x0 ev rv hev hcn h
  | pick x0 x1 x2 => exact eff_pick hm dst type pos after guard x0 x1 x2 ev rv hev hcn h
  | alloc x0 => exact eff_alloc hm dst type pos after guard x0 ev rv hev hcn h
  | box x0 x1 => exact eff_box hm dst type pos after guard x0 x1 ev rv hev hcn h
  | build x0 x1 => exact eff_build hm dst type pos after guard x0 x1 ev rv hev hcn h
  | buildSlice x0 x1 x2 => exact eff_buildSlice hm dst type pos after guard x0 x1 x2 ev rv hev hcn h
  | load x0 x1 => exact eff_load hm dst type pos after guard x0 x1 ev rv hev hcn h
  | store x0 x1 x2 => exact eff_store hm dst type pos after guard x0 x1 x2 ev rv hev hcn h
  | nilCheck x0 => exact eff_nilCheck hm dst type pos after guard x0 ev rv hev hcn h
  | binOp x0 x1 x2 x3 x4 => exact eff_binOp hm dst type pos after guard x0 x1 x2 x3 x4 ev rv hev hcn h
  | unOp x0 x1 x2 => exact eff_unOp hm dst type pos after guard x0 x1 x2 ev rv hev hcn h
  | convert x0 x1 x2 => exact eff_convert hm dst type pos after guard x0 x1 x2 ev rv hev hcn h
  | makeFunc x0 x1 x2 => exact eff_makeFunc hm dst type pos after guard x0 x1 x2 ev rv hev hcn h
  | makeSlice x0 x1 x2 => exact eff_makeSlice hm dst type pos after guard x0 x1 x2 ev rv hev hcn h
  | slice x0 x1 x2 x3 x4 => exact eff_slice hm dst type pos after guard x0 x1 x2 x3 x4 ev rv hev hcn h
  | fieldAddr x0 x1 x2 => exact eff_fieldAddr hm dst type pos after guard x0 x1 x2 ev rv hev hcn h
  | field x0 x1 x2 => exact eff_field hm dst type pos after guard x0 x1 x2 ev rv hev hcn h
  | indexAddr x0 x1 x2 => exact eff_indexAddr hm dst type pos after guard x0 x1 x2 ev rv hev hcn h
  | index x0 x1 x2 => exact eff_index hm dst type pos after guard x0 x1 x2 ev rv hev hcn h
  | extract x0 x1 => exact eff_extract hm dst type pos after guard x0 x1 ev rv hev hcn h
  | call x0 => exact eff_call hm dst type pos after guard x0 ev rv hev hcn h
  | makeMap x0 x1 => exact effM_sound hm _ ev rv hev h
  | lookup x0 x1 x2 x3 => exact effM_sound hm _ ev rv hev h
  | mapUpdate x0 x1 x2 x3 => exact effM_sound hm _ ev rv hev h
  | range x0 x1 => exact effM_sound hm _ ev rv hev h
  | next x0 x1 => exact effM_sound hm _ ev rv hev h
  | entry x0 => exact effM_sound hm _ ev rv hev h
  | _ => cases h

end
end Go.Proofs.YtpjncojljamacaaGreat.AM
set_option linter.unusedVariables false
set_option linter.unusedSimpArgs false
namespace Go.Proofs.YtpjncojljamacaaGreat.AM
open Go Go.RowKit

mutual
def ren (σ : Nat → Nat) : AV → AV
  | .any => .any
  | .iv x => .iv x
  | .nilsl => .nilsl
  | .msl k off len n => .msl (σ k) off len n
  | .mp k off => .mp (σ k) off
  | .rp k n i c => .rp (σ k) n i c
  | .ip sz xs i c => .ip sz xs i c
  | .agg cs => .agg (rens σ cs)
  | .tup cs => .tup (rens σ cs)
  | .fn f cs => .fn f (rens σ cs)
  | .mr k => .mr (σ k)
  | .it k => .it (σ k)
def rens (σ : Nat → Nat) : List AV → List AV
  | [] => []
  | x :: l => ren σ x :: rens σ l
end
theorem rens_map (σ : Nat → Nat) : ∀ l, rens σ l = l.map (ren σ)
  | [] => rfl
  | x :: l => by simp [rens, rens_map σ l]
theorem rens_get (σ : Nat → Nat) (l : List AV) (i : Nat) : (rens σ l)[i]? = (l[i]?).map (ren σ) := by rw [rens_map, List.getElem?_map]
theorem rens_len (σ : Nat → Nat) (l : List AV) : (rens σ l).length = l.length := by rw [rens_map, List.length_map]
def renOD (σ : Nat → Nat) : OD → OD
  | .map m ks vs => .map m ks (rens σ vs)
  | .miter x n sn => .miter (ren σ x) n sn
  | .siter s pos => .siter s pos
theorem renOD_isMap (σ : Nat → Nat) (d : OD) : (renOD σ d).isMap = d.isMap := by cases d <;> rfl
theorem renOD_mut (σ : Nat → Nat) (d : OD) : (renOD σ d).mut = d.mut := by cases d <;> rfl
def renMO (σ : Nat → Nat) : MO → MO
  | .row m T sz xs => .row m T sz xs
  | .var T cs => .var T (rens σ cs)
  | .obj d => .obj (renOD σ d)
theorem renMO_mut (σ : Nat → Nat) (o : MO) : (renMO σ o).mut = o.mut := by
  cases o with
  | obj d => exact renOD_mut σ d
  | _ => rfl

def sg (l : List Nat) (m : Nat) (i : Nat) : Nat := match l[i]? with
  | some j => j
  | none => m + (i - l.length)
structure Part (M : List MO) (l : List Nat) (Ml : List MO) : Prop where
  nd : l.Nodup
  len : Ml.length = l.length
  get : ∀ (i j : Nat) (o : MO), l[i]? = some j → Ml[i]? = some o → M[j]? = some (renMO (sg l M.length) o)
def partρ (ρ : Nat → Option Nat) (l : List Nat) (i : Nat) : Option Nat := (l[i]?).bind ρ

theorem Evo.weak {M : List MO} {ρ : Nat → Option Nat} {E E' : Nat → Prop} {w : World} (h : ∀ b, E' b → E b) : Evo M M ρ ρ E E' w w where
  stay := ⟨Nat.le_refl _, fun b _ hb => ⟨rfl, fun h' => hb (h b h')⟩⟩
  var k T cs hk := ⟨cs, hk, rfl⟩
  oth k d hk := ⟨d, hk, rfl, rfl⟩
  row k m T sz xs hk := ⟨m, xs, hk, Nat.le_refl _, fun _ => ⟨rfl, fun c arr fz hc hh => ⟨arr, fz, hh, Nat.le_refl _⟩⟩⟩

section
variable {X O : Nat → Prop} {w0 : World} {M Ml : List MO} {l : List Nat} {ρ : Nat → Option Nat} {E : Nat → Prop} {w : World}

theorem Part.name (h : Part M l Ml) {k : Nat} {o' : MO} (hk : M[sg l M.length k]? = some o') : ∃ o, Ml[k]? = some o ∧ o' = renMO (sg l M.length) o ∧ partρ ρ l k = ρ (sg l M.length k) := by
  cases hl : l[k]? with
  | none =>
    have : sg l M.length k = M.length + (k - l.length) := by simp [sg, hl]
    rw [this, List.getElem?_eq_none (by omega)] at hk; cases hk
  | some j =>
    have e : sg l M.length k = j := by simp [sg, hl]
    have hlt := lt_of_get hl
    have hg : Ml[k]? = some (Ml[k]'(by rw [h.len]; exact hlt)) := List.getElem?_eq_getElem _
    refine ⟨_, hg, ?_, by simp [partρ, hl, e]⟩
    have := h.get k j _ hl hg
    rw [e] at hk
    rw [hk] at this
    exact Option.some.inj this

theorem row_of_ren {σ : Nat → Nat} {o : MO} {m : Bool} {T : TypeId} {sz : Nat} {xs : List IV} (h : MO.row m T sz xs = renMO σ o) : o = .row m T sz xs := by
  cases o <;> simp [renMO] at h
  obtain ⟨rfl, rfl, rfl, rfl⟩ := h; rfl
theorem var_of_ren {σ : Nat → Nat} {o : MO} {T : TypeId} {cs : List AV} (h : MO.var T cs = renMO σ o) : ∃ cs', o = .var T cs' ∧ cs = rens σ cs' := by
  cases o <;> simp [renMO] at h
  obtain ⟨rfl, rfl⟩ := h; exact ⟨_, rfl, rfl⟩

theorem obj_of_ren {σ : Nat → Nat} {o : MO} {d : OD} (h : MO.obj d = renMO σ o) : ∃ d', o = .obj d' ∧ d = renOD σ d' := by
  cases o <;> simp [renMO] at h
  subst h; exact ⟨_, rfl, rfl⟩

theorem RepA.part (hp : Part M l Ml) {y : AV} {v : Value} (h : RepA M ρ E w y v) : ∀ x, y = ren (sg l M.length) x → RepA Ml (partρ ρ l) E w x v := by
  have lst : ∀ (cs : List AV) (vs : Array Value) (xs : List AV), cs = rens (sg l M.length) xs → 
      (∀ (i : Nat) (y : AV) (z : Value), cs[i]? = some y → vs[i]? = some z → ∀ x, y = ren (sg l M.length) x → RepA Ml (partρ ρ l) E w x z) →
      (∀ (i : Nat) (x : AV) (z : Value), xs[i]? = some x → vs[i]? = some z → RepA Ml (partρ ρ l) E w x z) := by
    intro cs vs xs e ih i x z hx hz
    exact ih i _ z (by rw [e, rens_get, hx]; rfl) hz x rfl
  induction h with
  | any v => intro x e; cases x <;> simp only [ren, reduceCtorEq] at e; exact .any _
  | iv y v h => intro x e; cases x <;> simp only [ren, reduceCtorEq, AV.iv.injEq] at e; subst e; exact .iv _ _ h
  | nilsl A => intro x e; cases x <;> simp only [ren, reduceCtorEq] at e; exact .nilsl _
  | msl k off len n v m T sz xs h hn hv hf =>
    intro x e; cases x <;> simp only [ren, reduceCtorEq, AV.msl.injEq] at e
    obtain ⟨rfl, rfl, rfl, rfl⟩ := e
    obtain ⟨o, h1, h2, h3⟩ := hp.name (ρ := ρ) h
    refine .msl _ _ _ _ v m T sz xs (by rw [h1, row_of_ren h2]) hn hv (fun e => ?_)
    have := hf e
    unfold SlFact at this ⊢
    rw [h3]; exact this
  | mp k off T cs b h hb =>
    intro x e; cases x <;> simp only [ren, reduceCtorEq, AV.mp.injEq] at e
    obtain ⟨rfl, rfl⟩ := e
    obtain ⟨o, h1, h2, h3⟩ := hp.name (ρ := ρ) h
    obtain ⟨cs', rfl, _⟩ := var_of_ren h2
    exact .mp _ _ T cs' b h1 (h3.trans hb)
  | rp k n i c v m T sz xs h hn hv hf =>
    intro x e; cases x <;> simp only [ren, reduceCtorEq, AV.rp.injEq] at e
    obtain ⟨rfl, rfl, rfl, rfl⟩ := e
    obtain ⟨o, h1, h2, h3⟩ := hp.name (ρ := ρ) h
    refine .rp _ _ _ _ v m T sz xs (by rw [h1, row_of_ren h2]) hn hv (fun e => ?_)
    obtain ⟨b, hb, hv⟩ := hf e
    exact ⟨b, h3.trans hb, hv⟩
  | ip sz xs i c b o cap h hi =>
    intro x e; cases x <;> simp only [ren, reduceCtorEq, AV.ip.injEq] at e
    obtain ⟨rfl, rfl, rfl, rfl⟩ := e
    exact .ip _ _ _ _ b o cap h hi
  | agg cs vs hl h ih =>
    intro x e; cases x <;> simp only [ren, reduceCtorEq, AV.agg.injEq] at e
    rename_i xs
    exact .agg xs vs (by rw [hl, e, rens_len]) (lst cs vs xs e ih)
  | tup cs vs hl h ih =>
    intro x e; cases x <;> simp only [ren, reduceCtorEq, AV.tup.injEq] at e
    rename_i xs
    exact .tup xs vs (by rw [hl, e, rens_len]) (lst cs vs xs e ih)
  | fn f cs vs hl h ih =>
    intro x e; cases x <;> simp only [ren, reduceCtorEq, AV.fn.injEq] at e
    rename_i g xs
    obtain ⟨rfl, e⟩ := e
    exact .fn _ xs vs (by rw [hl, e, rens_len]) (lst cs vs xs e ih)
  | mr k d b h hd hb =>
    intro x e; cases x <;> simp only [ren, reduceCtorEq, AV.mr.injEq] at e
    subst e
    obtain ⟨o, h1, h2, h3⟩ := hp.name (ρ := ρ) h
    obtain ⟨d', rfl, rfl⟩ := obj_of_ren h2
    exact .mr _ d' b h1 ((renOD_isMap _ _).symm.trans hd) (h3.trans hb)
  | it k d b h hd hb =>
    intro x e; cases x <;> simp only [ren, reduceCtorEq, AV.it.injEq] at e
    subst e
    obtain ⟨o, h1, h2, h3⟩ := hp.name (ρ := ρ) h
    obtain ⟨d', rfl, rfl⟩ := obj_of_ren h2
    exact .it _ d' b h1 ((renOD_isMap _ _).symm.trans hd) (h3.trans hb)

theorem partρ_get {i j : Nat} (h : l[i]? = some j) : partρ ρ l i = ρ j := by simp [partρ, h]

theorem ObjRep.part (hp : Part M l Ml) {i j : Nat} {o : MO} (hl : l[i]? = some j) (h : ObjRep M ρ E w j (renMO (sg l M.length) o)) : ObjRep Ml (partρ ρ l) E w i o := by
  cases o with
  | row m T sz xs =>
    obtain ⟨h1, h2⟩ := h
    refine ⟨h1, ?_⟩
    rw [partρ_get hl]
    exact h2
  | var T cs =>
    obtain ⟨b, arr, fz, h1, h2, h3, h4, h5⟩ := h
    refine ⟨b, arr, fz, (partρ_get hl).trans h1, h2, h3, by rw [h4, rens_len], fun i y u hy hu => ?_⟩
    exact (h5 i _ u (by rw [rens_get, hy]; rfl) hu).part hp y rfl
  | obj d =>
    obtain ⟨b, h1, h2⟩ := h
    refine ⟨b, (partρ_get hl).trans h1, ?_⟩
    cases d with
    | map m ks vs =>
      obtain ⟨es, clock, g1, g2, g3, g4, g5, g6⟩ := h2
      exact ⟨es, clock, g1, g2, g3, by rw [g4, rens_len], g5, fun i e y he hy => (g6 i e _ he (by rw [rens_get, hy]; rfl)).part hp y rfl⟩
    | miter x n sn => obtain ⟨o, g1, g2⟩ := h2; exact ⟨o, g1, g2.part hp x rfl⟩
    | siter t pos => exact h2

def othX (X : Nat → Prop) (M : List MO) (ρ : Nat → Option Nat) (l : List Nat) (b : Nat) : Prop := X b ∨ ∃ j o, M[j]? = some o ∧ o.mut = true ∧ ρ j = some b ∧ j ∉ l

theorem Part.at (hp : Part M l Ml) {i : Nat} {o : MO} (h : Ml[i]? = some o) : ∃ j, l[i]? = some j ∧ M[j]? = some (renMO (sg l M.length) o) := by
  have hi := lt_of_get h
  rw [hp.len] at hi
  exact ⟨_, List.getElem?_eq_getElem hi, hp.get i _ o (List.getElem?_eq_getElem hi) h⟩
theorem Part.of (hp : Part M l Ml) {i j : Nat} (h : l[i]? = some j) : ∃ o, Ml[i]? = some o ∧ M[j]? = some (renMO (sg l M.length) o) := by
  have hi := lt_of_get h
  have hg : Ml[i]? = some (Ml[i]'(by rw [hp.len]; exact hi)) := List.getElem?_eq_getElem _
  exact ⟨_, hg, hp.get i j _ h hg⟩

theorem excl_part (hp : Part M l Ml) : excl (othX X M ρ l) Ml (partρ ρ l) = excl X M ρ := by
  funext b
  apply propext
  constructor
  · rintro ((hX | ⟨j, o, h1, h2, h3, _⟩) | ⟨i, o, h1, h2, h3⟩)
    · exact .inl hX
    · exact .inr ⟨j, o, h1, h2, h3⟩
    · obtain ⟨j, h4, h5⟩ := hp.at h1
      exact .inr ⟨j, _, h5, by rw [renMO_mut]; exact h2, by rw [← partρ_get (ρ := ρ) h4]; exact h3⟩
  · rintro (hX | ⟨j, o, h1, h2, h3⟩)
    · exact .inl (.inl hX)
    · by_cases hj : j ∈ l
      · obtain ⟨i, hi⟩ := List.getElem?_of_mem hj
        obtain ⟨o', h4, h5⟩ := hp.of hi
        rw [h1] at h5; cases h5
        exact .inr ⟨i, o', h4, by rw [← h2, renMO_mut], (partρ_get hi).trans h3⟩
      · exact .inl (.inr ⟨j, o, h1, h2, h3, hj⟩)

theorem nodup_get {l : List Nat} (h : l.Nodup) {i i' j : Nat} (h1 : l[i]? = some j) (h2 : l[i']? = some j) : i = i' :=
  (List.getElem?_inj (lt_of_get h1) h).1 (h1.trans h2.symm)

def blocks (M : List MO) (ρ : Nat → Option Nat) (b : Nat) : Prop := ∃ i, i < M.length ∧ ρ i = some b

theorem MemOk.part (hp : Part M l Ml) (h : MemOk X O w0 M ρ w) : MemOk (othX X M ρ l) (blocks Ml (partρ ρ l)) w Ml (partρ ρ l) w where
  obj i o hi := by
    obtain ⟨j, h1, h2⟩ := hp.at hi
    rw [excl_part hp]
    exact (h.obj j _ h2).part hp h1
  inj i i' b hi hi' hb hb' := by
    rw [hp.len] at hi hi'
    have e1 := List.getElem?_eq_getElem hi
    have e2 := List.getElem?_eq_getElem hi'
    obtain ⟨o1, _, g1⟩ := hp.of e1
    obtain ⟨o2, _, g2⟩ := hp.of e2
    rw [partρ_get e1] at hb
    rw [partρ_get e2] at hb'
    have := h.inj _ _ b (lt_of_get g1) (lt_of_get g2) hb hb'
    exact nodup_get hp.nd e1 (by rw [e2, this])
  own i b hi hb := by
    refine ⟨?_, .inl ⟨i, hi, hb⟩⟩
    rw [hp.len] at hi
    have e1 := List.getElem?_eq_getElem hi
    obtain ⟨o1, _, g1⟩ := hp.of e1
    rw [partρ_get e1] at hb
    rintro (hX | ⟨j, o, h1, h2, h3, h4⟩)
    · exact (h.own _ b (lt_of_get g1) hb).1 hX
    · exact h4 (h.inj _ _ b (lt_of_get h1) (lt_of_get g1) h3 hb ▸ List.getElem_mem hi)
  keep := Keep.refl _ _
  ext b hb := by
    rcases hb with hX | ⟨j, o, h1, h2, h3, _⟩
    · exact h.ext b hX
    · exact h.lt (lt_of_get h1) h3

theorem MemOk.sel (hp : Part M l Ml) (h : MemOk X O w0 M ρ w) : MemOk X O w0 Ml (partρ ρ l) w ∧ ∀ b, excl X Ml (partρ ρ l) b → excl X M ρ b := by
  have hE : ∀ b, excl X Ml (partρ ρ l) b → excl X M ρ b := by
    rintro b (hX | ⟨i, o, h1, h2, h3⟩)
    · exact .inl hX
    · obtain ⟨j, h4, h5⟩ := hp.at h1
      exact .inr ⟨j, _, h5, by rw [renMO_mut]; exact h2, by rw [← partρ_get (ρ := ρ) h4]; exact h3⟩
  refine ⟨{ obj := fun i o hi => ?_, inj := (h.part hp).inj, own := fun i b hi hb => ?_, keep := h.keep, ext := h.ext }, hE⟩
  · obtain ⟨j, h1, h2⟩ := hp.at hi
    exact ((h.obj j _ h2).part hp h1).mono (Evo.weak hE) rfl (fun _ _ => rfl)
  · rw [hp.len] at hi
    have e1 := List.getElem?_eq_getElem hi
    obtain ⟨o1, _, g1⟩ := hp.of e1
    rw [partρ_get e1] at hb
    exact h.own _ b (lt_of_get g1) hb

end

end Go.Proofs.YtpjncojljamacaaGreat.AM
set_option linter.unusedVariables false
set_option linter.unusedSimpArgs false
namespace Go.Proofs.YtpjncojljamacaaGreat.AM
open Go Go.RowKit

def setAll : List MO → List Nat → List MO → List MO
  | M, j :: l, o :: os => setAll (M.set j o) l os
  | M, [], os => M ++ os
  | M, _ :: _, [] => M
def backM (M : List MO) (l : List Nat) (M' : List MO) : List MO := setAll M l (M'.map (renMO (sg l M.length)))
def backρ (ρ ρ' : Nat → Option Nat) (l : List Nat) (m : Nat) (j : Nat) : Option Nat := if j ∈ l then ρ' (l.idxOf j) else if j < m then ρ j else ρ' (l.length + (j - m))

theorem setAll_old : ∀ (l : List Nat) (M os : List MO) {j : Nat}, j < M.length → j ∉ l → (setAll M l os)[j]? = M[j]?
  | [], M, os, j, h, _ => by simp [setAll, List.getElem?_append_left h]
  | i :: l, M, [], j, h, _ => rfl
  | i :: l, M, o :: os, j, h, hn => by
    simp only [List.mem_cons, not_or] at hn
    rw [setAll, setAll_old l _ os (by simpa using h) hn.2, List.getElem?_set_ne (Ne.symm hn.1)]
theorem setAll_at : ∀ (l : List Nat) (M os : List MO) {i j : Nat}, l.Nodup → (∀ x ∈ l, x < M.length) → l.length ≤ os.length → l[i]? = some j → (setAll M l os)[j]? = os[i]?
  | [], M, os, i, j, _, _, _, h => by simp at h
  | a :: l, M, [], i, j, _, _, hl, h => by simp at hl
  | a :: l, M, o :: os, i, j, hn, hb, hl, h => by
    rw [List.nodup_cons] at hn
    cases i with
    | zero =>
      simp only [List.getElem?_cons_zero, Option.some.injEq] at h
      subst h
      rw [setAll, setAll_old l _ os (by simpa using hb a (by simp)) hn.1, List.getElem?_set_self (hb a (by simp))]; rfl
    | succ i =>
      simp only [List.getElem?_cons_succ] at h ⊢
      exact setAll_at l _ os hn.2 (fun x hx => by simpa using hb x (by simp [hx])) (by simpa using hl) h
theorem setAll_new : ∀ (l : List Nat) (M os : List MO) (i : Nat), l.length ≤ os.length → l.length ≤ i → (setAll M l os)[M.length + (i - l.length)]? = os[i]?
  | [], M, os, i, _, _ => by
    rw [setAll, List.getElem?_append_right (by simp)]; simp
  | a :: l, M, [], i, hl, h => by simp at hl
  | a :: l, M, o :: os, i, hl, h => by
    cases i with
    | zero => simp at h
    | succ i =>
      have := setAll_new l (M.set a o) os i (by simpa using hl) (by simpa using h)
      simp only [List.length_set] at this
      rw [setAll, List.length_cons, Nat.add_sub_add_right, List.getElem?_cons_succ]
      exact this
theorem setAll_len : ∀ (l : List Nat) (M os : List MO), l.length ≤ os.length → (setAll M l os).length = M.length + (os.length - l.length)
  | [], M, os, _ => by simp [setAll]
  | a :: l, M, [], hl => by simp at hl
  | a :: l, M, o :: os, hl => by
    rw [setAll, setAll_len l _ os (by simpa using hl)]; simp

structure Back (M : List MO) (l : List Nat) (M' M2 : List MO) (ρ ρ' ρ2 : Nat → Option Nat) : Prop where
  nd : l.Nodup
  lt : ∀ j ∈ l, j < M.length
  at_ : ∀ i, M2[sg l M.length i]? = (M'[i]?).map (renMO (sg l M.length))
  ρat : ∀ i, ρ2 (sg l M.length i) = ρ' i
  old : ∀ k, k < M.length → k ∉ l → M2[k]? = M[k]? ∧ ρ2 k = ρ k
  cas : ∀ k, k < M2.length → (∃ i, i < M'.length ∧ k = sg l M.length i) ∨ (k < M.length ∧ k ∉ l)

theorem Back.mk' {M : List MO} {l : List Nat} {M' : List MO} {ρ ρ' : Nat → Option Nat} (hn : l.Nodup) (hb : ∀ j ∈ l, j < M.length) (hl : l.length ≤ M'.length) :
    Back M l M' (backM M l M') ρ ρ' (backρ ρ ρ' l M.length) where
  nd := hn
  lt := hb
  at_ i := by
    unfold backM
    rw [← List.getElem?_map]
    cases h : l[i]? with
    | some j =>
      have : sg l M.length i = j := by simp [sg, h]
      rw [this]
      exact setAll_at l M _ hn hb (by simpa using hl) h
    | none =>
      have e : sg l M.length i = M.length + (i - l.length) := by simp [sg, h]
      rw [e]
      exact setAll_new l M _ i (by simpa using hl) (List.getElem?_eq_none_iff.1 h)
  ρat i := by
    unfold backρ
    cases h : l[i]? with
    | some j =>
      have : sg l M.length i = j := by simp [sg, h]
      have hm := List.mem_of_getElem? h
      rw [this, if_pos hm]
      congr 1
      exact nodup_get hn (List.getElem?_eq_some_iff.2 ⟨List.idxOf_lt_length_of_mem hm, List.getElem_idxOf (List.idxOf_lt_length_of_mem hm)⟩) h
    | none =>
      have hi := List.getElem?_eq_none_iff.1 h
      have e : sg l M.length i = M.length + (i - l.length) := by simp [sg, h]
      rw [e, if_neg (fun hm => by have := hb _ hm; omega), if_neg (by omega)]
      congr 1; omega
  old k hk hkl := by
    refine ⟨setAll_old l M _ hk hkl, ?_⟩
    unfold backρ
    rw [if_neg hkl, if_pos hk]
  cas k hk := by
    unfold backM at hk
    rw [setAll_len l M _ (by simpa using hl), List.length_map] at hk
    by_cases h : k < M.length
    · by_cases hm : k ∈ l
      · obtain ⟨i, hi⟩ := List.getElem?_of_mem hm
        exact .inl ⟨i, Nat.lt_of_lt_of_le (lt_of_get hi) hl, by simp [sg, hi]⟩
      · exact .inr ⟨h, hm⟩
    · refine .inl ⟨l.length + (k - M.length), by omega, ?_⟩
      have : l[l.length + (k - M.length)]? = none := List.getElem?_eq_none (by omega)
      simp only [sg, this]; omega

section
variable {X O : Nat → Prop} {w0 : World} {M Ml M' M2 : List MO} {l : List Nat} {ρ ρ' ρ2 : Nat → Option Nat} {E E' : Nat → Prop} {w w' : World}

theorem RepA.back (hb : Back M l M' M2 ρ ρ' ρ2) {x : AV} {v : Value} (h : RepA M' ρ' E w x v) : RepA M2 ρ2 E w (ren (sg l M.length) x) v := by
  have lst : ∀ (cs : List AV) (vs : Array Value), 
      (∀ (i : Nat) (y : AV) (z : Value), cs[i]? = some y → vs[i]? = some z → RepA M2 ρ2 E w (ren (sg l M.length) y) z) →
      (∀ (i : Nat) (x : AV) (z : Value), (rens (sg l M.length) cs)[i]? = some x → vs[i]? = some z → RepA M2 ρ2 E w x z) := by
    intro cs vs ih i x z hx hz
    rw [rens_get] at hx
    cases hc : cs[i]? with
    | none => rw [hc] at hx; cases hx
    | some y => rw [hc] at hx; cases hx; exact ih i y z hc hz
  induction h with
  | any v => exact .any v
  | iv x v h => exact .iv x v h
  | nilsl A => exact .nilsl A
  | msl k off len n v m T sz xs h hn hv hf =>
    refine .msl _ off len n v m T sz xs (by rw [hb.at_, h]; rfl) hn hv (fun e => ?_)
    have := hf e
    unfold SlFact at this ⊢
    rw [hb.ρat]; exact this
  | mp k off T cs b h h1 => exact .mp _ off T (rens (sg l M.length) cs) b (by rw [hb.at_, h]; rfl) ((hb.ρat k).trans h1)
  | rp k n i c v m T sz xs h hn hv hf =>
    refine .rp _ n i c v m T sz xs (by rw [hb.at_, h]; rfl) hn hv (fun e => ?_)
    obtain ⟨b, h1, hv⟩ := hf e
    exact ⟨b, (hb.ρat k).trans h1, hv⟩
  | ip sz xs i c b o cap h hi => exact .ip sz xs i c b o cap h hi
  | agg cs vs hl h ih => exact .agg _ vs (by rw [hl, rens_len]) (lst cs vs ih)
  | tup cs vs hl h ih => exact .tup _ vs (by rw [hl, rens_len]) (lst cs vs ih)
  | fn f cs vs hl h ih => exact .fn f _ vs (by rw [hl, rens_len]) (lst cs vs ih)
  | mr k d b h hd h1 => exact .mr _ (renOD (sg l M.length) d) b (by rw [hb.at_, h]; rfl) ((renOD_isMap _ _).trans hd) ((hb.ρat k).trans h1)
  | it k d b h hd h1 => exact .it _ (renOD (sg l M.length) d) b (by rw [hb.at_, h]; rfl) ((renOD_isMap _ _).trans hd) ((hb.ρat k).trans h1)

def Keeps (M M' : List MO) (ρ ρ' : Nat → Option Nat) (E E' : Nat → Prop) (w w' : World) : Prop := ∀ x u, RepA M ρ E w x u → RepA M' ρ' E' w' x u

theorem sg_mem {k : Nat} (h : k ∈ l) (m : Nat) : ∃ i, l[i]? = some k ∧ sg l m i = k := by
  obtain ⟨i, hi⟩ := List.getElem?_of_mem h
  exact ⟨i, hi, by simp [sg, hi]⟩

theorem inv_ip' {sz : Nat} {xs : List IV} {i c : Nat} {v : Value} (h : RepA M ρ E w (.ip sz xs i c) v) : ∃ b o cap, RepI E w (.sl sz xs) (.slice (some ⟨b, o, none⟩) xs.length cap) ∧ i < xs.length ∧ v = .pointer (some ⟨b, o + (i * sz + c), none⟩) := by
  cases h with | ip _ _ _ _ b o cap h hi => exact ⟨b, o, cap, h, hi, rfl⟩

theorem RepA.over (hp : Part M l Ml) (hm : MemOk X O w0 M ρ w) (hb : Back M l M' M2 ρ ρ' ρ2) (hk : Keep (blocks Ml (partρ ρ l)) w w')
    (hf : Keeps Ml M' (partρ ρ l) ρ' E E' w w') {x : AV} {v : Value} (h : RepA M ρ E w x v) : RepA M2 ρ2 E' w' x v := by
  induction h with
  | any v => exact .any v
  | iv x v h => 
    have := hf (.iv x) v (.iv x v h)
    cases this with | iv _ _ h => exact .iv x v h
  | nilsl A => exact .nilsl A
  | msl k off len n v m T sz xs h hn hv hfa =>
    by_cases e : k ∈ l
    · obtain ⟨i, hi, hs⟩ := sg_mem e M.length
      have h1 : RepA Ml (partρ ρ l) E w (.msl i off len n) v := RepA.part hp (RepA.msl k off len n v m T sz xs h hn hv hfa) (.msl i off len n) (by simp only [ren, hs])
      have := (hf _ _ h1).back hb
      simp only [ren, hs] at this
      exact this
    · obtain ⟨h1, h2⟩ := hb.old k (lt_of_get h) e
      refine .msl k off len n v m T sz xs (h1.trans h) hn hv (fun e1 => ?_)
      obtain ⟨h4, A, c, hv, hlc, h5⟩ := hfa e1
      refine ⟨h4, A, c, hv, hlc, ?_⟩
      rw [h2]
      cases hkb : ρ k with
      | none => rw [hkb] at h5; exact h5
      | some b =>
        rw [hkb] at h5
        obtain ⟨h7, arr, fz, h8, h9⟩ := h5
        refine ⟨h7, arr, fz, ?_, h9⟩
        rw [hk.block b (hm.lt (lt_of_get h) hkb)]
        · exact h8
        · rintro ⟨i, hi, hbi⟩
          rw [hp.len] at hi
          have e1 := List.getElem?_eq_getElem hi
          obtain ⟨o1, _, g1⟩ := hp.of e1
          rw [partρ_get e1] at hbi
          exact e ((hm.inj _ _ b (lt_of_get h) (lt_of_get g1) hkb hbi) ▸ List.getElem_mem hi)
  | mp k off T cs b h h0 =>
    by_cases e : k ∈ l
    · obtain ⟨i, hi, hs⟩ := sg_mem e M.length
      have h1 : RepA Ml (partρ ρ l) E w (.mp i off) _ := RepA.part hp (RepA.mp k off T cs b h h0) (.mp i off) (by simp only [ren, hs])
      have := (hf _ _ h1).back hb
      simp only [ren, hs] at this
      exact this
    · obtain ⟨h1, h2⟩ := hb.old k (lt_of_get h) e
      exact .mp k off T cs b (h1.trans h) (h2.trans h0)
  | rp k n i c v m T sz xs h hn hv hfa =>
    by_cases e : k ∈ l
    · obtain ⟨i', hi, hs⟩ := sg_mem e M.length
      have h1 : RepA Ml (partρ ρ l) E w (.rp i' n i c) v := RepA.part hp (RepA.rp k n i c v m T sz xs h hn hv hfa) (.rp i' n i c) (by simp only [ren, hs])
      have := (hf _ _ h1).back hb
      simp only [ren, hs] at this
      exact this
    · obtain ⟨h1, h2⟩ := hb.old k (lt_of_get h) e
      refine .rp k n i c v m T sz xs (h1.trans h) hn hv (fun e1 => ?_)
      obtain ⟨b, h3, h4⟩ := hfa e1
      exact ⟨b, h2.trans h3, h4⟩
  | ip sz xs i c b o cap h hi =>
    have := hf _ _ (RepA.ip sz xs i c b o cap h hi)
    obtain ⟨b', o', cap', h', hi', hv⟩ := inv_ip' this
    rw [hv]; exact .ip sz xs i c b' o' cap' h' hi'
  | agg cs vs hl h ih => exact .agg cs vs hl ih
  | tup cs vs hl h ih => exact .tup cs vs hl ih
  | fn f cs vs hl h ih => exact .fn f cs vs hl ih
  | mr k d b h hd h0 =>
    by_cases e : k ∈ l
    · obtain ⟨i, hi, hs⟩ := sg_mem e M.length
      have h1 : RepA Ml (partρ ρ l) E w (.mr i) _ := RepA.part hp (RepA.mr k d b h hd h0) (.mr i) (by simp only [ren, hs])
      have := (hf _ _ h1).back hb
      simp only [ren, hs] at this
      exact this
    · obtain ⟨h1, h2⟩ := hb.old k (lt_of_get h) e
      exact .mr k d b (h1.trans h) hd (h2.trans h0)
  | it k d b h hd h0 =>
    by_cases e : k ∈ l
    · obtain ⟨i, hi, hs⟩ := sg_mem e M.length
      have h1 : RepA Ml (partρ ρ l) E w (.it i) _ := RepA.part hp (RepA.it k d b h hd h0) (.it i) (by simp only [ren, hs])
      have := (hf _ _ h1).back hb
      simp only [ren, hs] at this
      exact this
    · obtain ⟨h1, h2⟩ := hb.old k (lt_of_get h) e
      exact .it k d b (h1.trans h) hd (h2.trans h0)

theorem ObjRep.over (hp : Part M l Ml) (hm : MemOk X O w0 M ρ w) (hb : Back M l M' M2 ρ ρ' ρ2) (hk : Keep (blocks Ml (partρ ρ l)) w w')
    (hf : Keeps Ml M' (partρ ρ l) ρ' E E' w w') {k : Nat} {o : MO} (hM : M[k]? = some o) (hkl : k ∉ l) (h : ObjRep M ρ E w k o) : ObjRep M2 ρ2 E' w' k o := by
  have hblk : ∀ b, ρ k = some b → w'.heap[b]? = w.heap[b]? := by
    intro b hkb
    refine hk.block b (hm.lt (lt_of_get hM) hkb) ?_
    rintro ⟨i, hi, hbi⟩
    rw [hp.len] at hi
    have e1 := List.getElem?_eq_getElem hi
    obtain ⟨o1, _, g1⟩ := hp.of e1
    rw [partρ_get e1] at hbi
    exact hkl ((hm.inj _ _ b (lt_of_get hM) (lt_of_get g1) hkb hbi) ▸ List.getElem_mem hi)
  have h2 := (hb.old k (lt_of_get hM) hkl).2
  cases o with
  | row m T sz xs =>
    obtain ⟨h3, h4⟩ := h
    refine ⟨h3, ?_⟩
    rw [h2]
    cases hkb : ρ k with
    | none => rw [hkb] at h4; exact h4
    | some b =>
      rw [hkb] at h4
      obtain ⟨arr, fz, h5, h6, h7, h8⟩ := h4
      refine ⟨arr, fz, (hblk b hkb).trans h5, h6, h7, fun i x j y hx hy => ?_⟩
      obtain ⟨u, hu, hr⟩ := h8 i x j y hx hy
      have := hf (.iv y) u (.iv y u hr)
      cases this with | iv _ _ h => exact ⟨u, hu, h⟩
  | var T cs =>
    obtain ⟨b, arr, fz, h3, h4, h5, h6, h7⟩ := h
    exact ⟨b, arr, fz, h2.trans h3, (hblk b h3).trans h4, h5, h6, fun i y u hy hu => (h7 i y u hy hu).over hp hm hb hk hf⟩
  | obj d =>
    obtain ⟨b, h3, h4⟩ := h
    refine ⟨b, h2.trans h3, ?_⟩
    cases d with
    | map m ks vs =>
      obtain ⟨es, clock, g1, g2, g3, g4, g5, g6⟩ := h4
      refine ⟨es, clock, (hblk b h3).trans g1, g2, g3, g4, fun i e y he hy => ?_, fun i e y he hy => (g6 i e y he hy).over hp hm hb hk hf⟩
      have := hf (.iv y) _ (.iv y _ (g5 i e y he hy))
      cases this with | iv _ _ h => exact h
    | miter x n sn => obtain ⟨o, g1, g2⟩ := h4; exact ⟨o, (hblk b h3).trans g1, g2.over hp hm hb hk hf⟩
    | siter t pos => exact (hblk b h3).trans h4

theorem ObjRep.back (hb : Back M l M' M2 ρ ρ' ρ2) {i : Nat} {o : MO} (h : ObjRep M' ρ' E w i o) : ObjRep M2 ρ2 E w (sg l M.length i) (renMO (sg l M.length) o) := by
  cases o with
  | row m T sz xs =>
    obtain ⟨h1, h2⟩ := h
    refine ⟨h1, ?_⟩
    rw [hb.ρat]; exact h2
  | var T cs =>
    obtain ⟨b, arr, fz, h3, h4, h5, h6, h7⟩ := h
    refine ⟨b, arr, fz, (hb.ρat i).trans h3, h4, h5, by rw [h6, rens_len], fun j y u hy hu => ?_⟩
    rw [rens_get] at hy
    cases hc : cs[j]? with
    | none => rw [hc] at hy; cases hy
    | some z => rw [hc] at hy; cases hy; exact (h7 j z u hc hu).back hb
  | obj d =>
    obtain ⟨b, h3, h4⟩ := h
    refine ⟨b, (hb.ρat i).trans h3, ?_⟩
    cases d with
    | map m ks vs =>
      obtain ⟨es, clock, g1, g2, g3, g4, g5, g6⟩ := h4
      refine ⟨es, clock, g1, g2, g3, by rw [g4, rens_len], g5, fun i e y he hy => ?_⟩
      rw [rens_get] at hy
      cases hc : vs[i]? with
      | none => rw [hc] at hy; cases hy
      | some z => rw [hc] at hy; cases hy; exact (g6 i e z he hc).back hb
    | miter x n sn => obtain ⟨o, g1, g2⟩ := h4; exact ⟨o, g1, g2.back hb⟩
    | siter t pos => exact h4

theorem excl_back (hp : Part M l Ml) (hb : Back M l M' M2 ρ ρ' ρ2) : excl X M2 ρ2 = excl (othX X M ρ l) M' ρ' := by
  funext b
  apply propext
  constructor
  · rintro (hX | ⟨k, o, h1, h2, h3⟩)
    · exact .inl (.inl hX)
    · rcases hb.cas k (lt_of_get h1) with ⟨i, hi, rfl⟩ | ⟨hk, hkl⟩
      · rw [hb.at_] at h1
        cases hc : M'[i]? with
        | none => rw [hc] at h1; cases h1
        | some o' =>
          rw [hc] at h1; cases h1
          exact .inr ⟨i, o', hc, by rw [← h2, renMO_mut], (hb.ρat i) ▸ h3⟩
      · obtain ⟨h4, h5⟩ := hb.old k hk hkl
        exact .inl (.inr ⟨k, o, h4 ▸ h1, h2, h5 ▸ h3, hkl⟩)
  · rintro ((hX | ⟨k, o, h1, h2, h3, h4⟩) | ⟨i, o, h1, h2, h3⟩)
    · exact .inl hX
    · obtain ⟨h5, h6⟩ := hb.old k (lt_of_get h1) h4
      exact .inr ⟨k, o, h5.trans h1, h2, h6.trans h3⟩
    · exact .inr ⟨sg l M.length i, _, by rw [hb.at_, h1]; rfl, by rw [renMO_mut]; exact h2, (hb.ρat i).trans h3⟩

theorem MemOk.back (hp : Part M l Ml) (hm : MemOk X O w0 M ρ w) (hb : Back M l M' M2 ρ ρ' ρ2) (hm' : MemOk (othX X M ρ l) (blocks Ml (partρ ρ l)) w M' ρ' w')
    (hf : Keeps Ml M' (partρ ρ l) ρ' (excl X M ρ) (excl (othX X M ρ l) M' ρ') w w') : MemOk X O w0 M2 ρ2 w' := by
  have hE := excl_back (X := X) hp hb
  have hO : ∀ b, blocks Ml (partρ ρ l) b → ¬ X b ∧ (O b ∨ w0.heap.size ≤ b) ∧ ∃ j, j ∈ l ∧ j < M.length ∧ ρ j = some b := by
    rintro b ⟨i, hi, hbi⟩
    rw [hp.len] at hi
    have e1 := List.getElem?_eq_getElem hi
    obtain ⟨o1, _, g1⟩ := hp.of e1
    rw [partρ_get e1] at hbi
    have := hm.own _ b (lt_of_get g1) hbi
    exact ⟨this.1, this.2, _, List.getElem_mem hi, lt_of_get g1, hbi⟩
  refine { obj := fun k o hk => ?_, inj := fun i j b hi hj hib hjb => ?_, own := fun k b hk hkb => ?_, keep := ?_, ext := fun b hX => ?_ }
  · rw [hE]
    rcases hb.cas k (lt_of_get hk) with ⟨i, hi, rfl⟩ | ⟨hkM, hkl⟩
    · rw [hb.at_] at hk
      cases hc : M'[i]? with
      | none => rw [hc] at hk; cases hk
      | some o' => rw [hc] at hk; cases hk; exact (hm'.obj i o' hc).back hb
    · have h1 := (hb.old k hkM hkl).1 ▸ hk
      exact (hm.obj k o h1).over hp hm hb hm'.keep hf h1 hkl
  · have key : ∀ i k b, i < M'.length → k < M.length → k ∉ l → ρ' i = some b → ρ k = some b → False := by
      intro i k b hi hk hkl hib hkb
      rcases (hm'.own i b hi hib).2 with h1 | h1
      · obtain ⟨_, _, j, hj, hjM, hjb⟩ := hO b h1
        exact hkl (hm.inj k j b hk hjM hkb hjb ▸ hj)
      · have := hm.lt hk hkb; omega
    rcases hb.cas i hi with ⟨i', hi', rfl⟩ | ⟨hiM, hil⟩ <;> rcases hb.cas j hj with ⟨j', hj', rfl⟩ | ⟨hjM, hjl⟩
    · rw [hb.ρat] at hib hjb
      rw [hm'.inj i' j' b hi' hj' hib hjb]
    · rw [hb.ρat] at hib; rw [(hb.old j hjM hjl).2] at hjb
      exact (key i' j b hi' hjM hjl hib hjb).elim
    · rw [hb.ρat] at hjb; rw [(hb.old i hiM hil).2] at hib
      exact (key j' i b hj' hiM hil hjb hib).elim
    · rw [(hb.old i hiM hil).2] at hib; rw [(hb.old j hjM hjl).2] at hjb
      exact hm.inj i j b hiM hjM hib hjb
  · rcases hb.cas k hk with ⟨i, hi, rfl⟩ | ⟨hkM, hkl⟩
    · rw [hb.ρat] at hkb
      obtain ⟨h1, h2⟩ := hm'.own i b hi hkb
      refine ⟨fun hX => h1 (.inl hX), ?_⟩
      rcases h2 with h2 | h2
      · exact (hO b h2).2.1
      · exact .inr (Nat.le_trans hm.keep.size h2)
    · rw [(hb.old k hkM hkl).2] at hkb
      exact hm.own k b hkM hkb
  · exact hm.keep.trans hm'.keep (fun x hx hOx => by
      rcases (hO x hOx).2.1 with h | h
      · exact h
      · omega)
  · exact Nat.lt_of_lt_of_le (hm.ext b hX) hm'.keep.size

end

end Go.Proofs.YtpjncojljamacaaGreat.AM
set_option linter.unusedVariables false
set_option linter.unusedSimpArgs false
namespace Go.Proofs.YtpjncojljamacaaGreat.AM
open Go Go.RowKit

/-! ### states -/
def upd (t : Nat → AV) (d : Nat) (v : AV) : Nat → AV := fun i => if i = d then v else t i
theorem upd_same (t : Nat → AV) (d : Nat) (v : AV) : upd t d v d = v := by simp [upd]
theorem upd_ne (t : Nat → AV) {d i : Nat} (v : AV) (h : i ≠ d) : upd t d v i = t i := by simp [upd, h]
def St.put (s : St) (d : Option Nat) (v : AV) : St := match d with
  | none => s
  | some d => { s with t := upd s.t d v }
def St.ev (s : St) : Operand → AV
  | .tmp i => s.t i
  | .const v => constAV v
  | .func f => .iv (.fnc f)
  | .global _ => .any
def St.want (ops : List Oper) (s : St) (o : Oper) : Option Bool := match o.guard with
  | none => some true
  | some (j, w) => match (ops[j]?).bind (·.dst) with
    | some d => match s.t d with
      | .iv (.bool b) => some (b == w)
      | .iv (.tup []) => some false
      | _ => none
    | none => none

section
variable {P : Program} {X O : Nat → Prop} {w0 : World} {F : AV → Value → Prop} {s : St} {ρ : Nat → Option Nat} {a : Act} {w : World}

theorem Sim.ev (h : Sim X O w0 F s ρ a w) (x : Operand) : RepA s.M ρ (excl X s.M ρ) w (s.ev x) (a.eval x) := by
  cases x with
  | tmp t => exact h.tm t
  | const v => exact rep_constAV v
  | func f => exact .iv _ _ (.fnc f)
  | global g => exact .any _

theorem Dfr.stay {ds : List Deferred} {M M' : List MO} {ρ' : Nat → Option Nat} {w' : World} (h : Dfr X O w0 ds w) (hm : MemOk X O w0 M ρ w) (hst : Stay (excl X M ρ) (excl X M' ρ') w w') : Dfr X O w0 ds w' :=
  h.keep (fun _ hX hD => (hst.2 _ (Array.getElem?_eq_some_iff.1 hD).1 (hm.noDfr hX hD)).1)
theorem MemOk.dkeep {Ml M1 : List MO} {ρl ρ1 : Nat → Option Nat} {w' : World} {Xl : Nat → Prop} (hm : MemOk Xl O w0 Ml ρl w) (h1 : MemOk Xl (blocks Ml ρl) w M1 ρ1 w') : ∀ (D : Nat), w.heap[D]? = some (Obj.deferred (some [])) → w'.heap[D]? = w.heap[D]? :=
  fun D hD => h1.keep.block D (Array.getElem?_eq_some_iff.1 hD).1 (by
    rintro ⟨i, hi, hb⟩
    obtain ⟨o, h2, h3⟩ := hm.data hi hb
    rw [hD] at h2; cases h2; cases h3)

def fr (r : Option Nat) : Fence := { Fence.wide with round := r }
theorem fr_fn (r : Option Nat) (f : FuncId) : (fr r).fn f := trivial
theorem fr_depth (r : Option Nat) : (fr r).depth = none := rfl
structure Alike (w w' : World) : Prop where
  size : w.heap.size ≤ w'.heap.size
  cells : ∀ (b : Nat) (o : Obj), w.heap[b]? = some o → dataO o = true → w'.heap[b]? = some o

theorem Alike.refl (w : World) : Alike w w := ⟨Nat.le_refl _, fun _ _ h _ => h⟩
theorem Alike.trans {a b c : World} (h : Alike a b) (k : Alike b c) : Alike a c := ⟨Nat.le_trans h.size k.size, fun x o hx ho => k.cells x o (h.cells x o hx ho) ho⟩
theorem Alike.put {w : World} {D : Nat} {o : Obj} (o' : Obj) (h : w.heap[D]? = some o) (ho : dataO o = false) : Alike w (w.putObj D o') :=
  ⟨by simp, fun b o1 hb h1 => by
    by_cases e : b = D
    · subst e; rw [h] at hb; cases hb; rw [ho] at h1; cases h1
    · rw [World.putObj_heap_other e]; exact hb⟩
theorem Alike.alloc (w : World) (o : Obj) : Alike w (w.alloc o) :=
  ⟨by simp, fun b o1 hb _ => (Below.heap_alloc w o b (Array.getElem?_eq_some_iff.1 hb).1).trans hb⟩
theorem Alike.cell {w w' : World} (h : Alike w w') {a : Addr} {u : Value} (hc : w.cell? a = some u) : w'.cell? a = some u := by
  obtain ⟨o, ho, hc'⟩ := cells_of_cell hc
  rw [← hc]
  exact World.cell?_of_block (w := w) (((h.cells _ _ ho (by cases o <;> first | rfl | cases hc')).trans ho.symm))
theorem RepI.alike {E : Nat → Prop} {w w' : World} {x : IV} {v : Value} (h : RepI E w x v) (hw : Alike w w') : RepI E w' x v := by
  induction h with
  | bool b => exact .bool b
  | int k n => exact .int k n
  | str s => exact .str s
  | nilp => exact .nilp
  | fnc f => exact .fnc f
  | sl0 sz A c => exact .sl0 sz A c
  | sl sz xs b o c u hc hE hb hs hu hr ih => exact .sl sz xs b o c u hc hE (Nat.lt_of_lt_of_le hb hw.size) hs (fun i j hi hj => hw.cell (hu i j hi hj)) ih
  | agg cs vs hl h ih => exact .agg cs vs hl ih
  | tup cs vs hl h ih => exact .tup cs vs hl ih
  | map0 => exact .map0
  | map ks vs b es clock hE hb hm hk hv hrk hrv ihk ihv => exact .map ks vs b es clock hE (hw.cells _ _ hb rfl) hm hk hv ihk ihv
theorem RepA.alike {M : List MO} {ρ : Nat → Option Nat} {E : Nat → Prop} {w w' : World} {x : AV} {v : Value} (h : RepA M ρ E w x v) (hw : Alike w w') : RepA M ρ E w' x v := by
  induction h with
  | any v => exact .any v
  | iv x v h => exact .iv x v (h.alike hw)
  | nilsl A => exact .nilsl A
  | msl k off len n v m T sz xs h hn hv hf =>
    refine .msl k off len n v m T sz xs h hn hv (fun e => ?_)
    obtain ⟨h1, A, c, h2, h3, h4⟩ := hf e
    refine ⟨h1, A, c, h2, h3, ?_⟩
    split
    · rename_i hr; rw [hr] at h4; exact h4
    · rename_i b hr
      rw [hr] at h4
      obtain ⟨g1, arr, fz, g2, g3⟩ := h4
      exact ⟨g1, arr, fz, hw.cells _ _ g2 rfl, g3⟩
  | mp k off T cs b h hb => exact .mp k off T cs b h hb
  | rp k n i c v m T sz xs h hn hv hf => exact .rp k n i c v m T sz xs h hn hv hf
  | ip sz xs i c b o cap h hi => exact .ip sz xs i c b o cap (h.alike hw) hi
  | agg cs vs hl h ih => exact .agg cs vs hl ih
  | tup cs vs hl h ih => exact .tup cs vs hl ih
  | fn f cs vs hl h ih => exact .fn f cs vs hl ih
  | mr k d b h hd hb => exact .mr k d b h hd hb
  | it k d b h hd hb => exact .it k d b h hd hb
theorem ObjRep.alike {M : List MO} {ρ : Nat → Option Nat} {E : Nat → Prop} {w w' : World} {k : Nat} {o : MO} (h : ObjRep M ρ E w k o) (hw : Alike w w') : ObjRep M ρ E w' k o := by
  cases o with
  | row m T sz xs =>
    refine ⟨h.1, ?_⟩
    have h2 := h.2
    split
    · rename_i hr; rw [hr] at h2; exact h2
    · rename_i b hr
      rw [hr] at h2
      obtain ⟨arr, fz, g1, g2, g3, g4⟩ := h2
      exact ⟨arr, fz, hw.cells _ _ g1 rfl, g2, g3, fun i x j y hx hy => by obtain ⟨u, q1, q2⟩ := g4 i x j y hx hy; exact ⟨u, q1, q2.alike hw⟩⟩
  | var T cs =>
    obtain ⟨b, arr, fz, g1, g2, g3, g4, g5⟩ := h
    exact ⟨b, arr, fz, g1, hw.cells _ _ g2 rfl, g3, g4, fun i y u hy hu => (g5 i y u hy hu).alike hw⟩
  | obj d =>
    obtain ⟨b, h3, h4⟩ := h
    refine ⟨b, h3, ?_⟩
    cases d with
    | map m ks vs =>
      obtain ⟨es, clock, g1, g2, g3, g4, g5, g6⟩ := h4
      exact ⟨es, clock, hw.cells _ _ g1 rfl, g2, g3, g4, fun i e y he hy => (g5 i e y he hy).alike hw, fun i e y he hy => (g6 i e y he hy).alike hw⟩
    | miter x n sn => obtain ⟨o, g1, g2⟩ := h4; exact ⟨o, hw.cells _ _ g1 rfl, g2.alike hw⟩
    | siter t pos => exact hw.cells _ _ h4 rfl
theorem MemOk.alike {M : List MO} {w' : World} (h : MemOk X O w0 M ρ w) (hw : Alike w w') (hk : Keep O w0 w') : MemOk X O w0 M ρ w' :=
  ⟨fun k o hko => (h.obj k o hko).alike hw, h.inj, h.own, hk, fun b hb => Nat.lt_of_lt_of_le (h.ext b hb) hw.size⟩
theorem Sim.alike {w' : World} (hs : Sim X O w0 F s ρ a w) (hw : Alike w w') (hk : Keep O w0 w') {ds : List Deferred} (hd : Dfr X O w0 ds w') : Sim X O w0 F s ρ { a with defers := ds } w' :=
  ⟨hs.size, hd, fun i => (hs.tm i).alike hw, hs.mem.alike hw hk, fun x u hx => ⟨(hs.fr x u hx).1, (hs.fr x u hx).2.alike hw⟩⟩
theorem Keep.put {w : World} (h : Keep O w0 w) {D : Nat} (o : Obj) (hD : O D ∨ w0.heap.size ≤ D) : Keep O w0 (w.putObj D o) :=
  ⟨h.os, h.tape, h.output, by simpa using h.size, fun b hb hO => by
    rw [World.putObj_heap_other (fun e => by subst e; rcases hD with h | h; exact hO h; omega)]; exact h.block b hb hO⟩

theorem leaves_marks {F : Fence} {n : Nat} {fn : Func} {tmps : Array Value} {R : Ending → World → Prop} : ∀ (l : List Nat) (w : World), l.Nodup → (∀ D, D ∈ l → (O D ∨ w0.heap.size ≤ D) ∧ w.heap[D]? = some (.deferred (some []))) → Keep O w0 w →
    (∀ w1, Alike w w1 → Keep O w0 w1 → ∃ v, (results fn tmps).run P w1 = .ok v w1 ∧ R (.returned v) w1) → LeavesInM F n P fn tmps R (marks l) .returning w
  | [], w, _, _, hk, h => h w (Alike.refl w) hk
  | D :: l, w, hn, hd, hk, h => by
    have hD := hd D (by simp)
    refine ⟨by simp, .inl ⟨D, _, rfl, run_takeDeferred hD.2, ?_⟩⟩
    have hal : Alike w (w.putObj D (.deferred none)) := .put _ hD.2 rfl
    refine leaves_marks l _ (List.nodup_cons.1 hn).2 (fun D' hD' => ⟨(hd D' (by simp [hD'])).1, ?_⟩) (hk.put _ hD.1) (fun w1 hw hk1 => h w1 (hal.trans hw) hk1)
    rw [World.putObj_heap_other (by rintro rfl; exact (List.nodup_cons.1 hn).1 hD')]
    exact (hd D' (by simp [hD'])).2
theorem Sim.leaves {G : Fence} {n : Nat} {fn : Func} {R : Ending → World → Prop} (hs : Sim X O w0 F s ρ a w) (h : ∀ w1, Sim X O w0 F s ρ { a with defers := [] } w1 → ∃ v, (results fn a.tmps).run P w1 = .ok v w1 ∧ R (.returned v) w1) :
    LeavesInM G n P fn a.tmps R a.defers .returning w := by
  obtain ⟨l, h1, h2, h3⟩ := hs.defers
  rw [h1]
  exact leaves_marks l w h2 (fun D hD => (h3 D hD).2) hs.mem.keep (fun w1 hw hk => h w1 (hs.alike hw hk (Dfr.nil _ _ _ _)))
theorem calls_of_marks {P : Program} {f : FuncId} {fn : Func} {c : Code} {args : Array Value} {w : World} {R : Ending → World → Prop} (hf : P.funcs[f]? = some fn) (hb : fn.body = some c)
    (h : c.wpIn (fr none) 0 P (bodyPostM (fr none) 0 P fn R) { tmps := args ++ Array.replicate (fn.ntmps - args.size) undef, defers := [] } w) : Calls P f args w R :=
  callsIn_wide.1 (callsIn_of_wp_marks (F := fr none) (n := 0) hf hb trivial h rfl)

theorem Sim.put {M' : List MO} {ρ' : Nat → Option Nat} {w' : World} (h : Sim X O w0 F s ρ a w) (hm : MemOk X O w0 M' ρ' w') (hev : Evo s.M M' ρ ρ' (excl X s.M ρ) (excl X M' ρ') w w') {d : Option Nat} (hd : ∀ x, d = some x → x < s.n) {v : AV} {u : Value}
    (hv : RepA M' ρ' (excl X M' ρ') w' v u) : Sim X O w0 F ({ s with M := M' }.put d v) ρ' (a.put d u) w' := by
  have hdf := h.defers.stay h.mem hev.stay
  cases d with
  | none => exact ⟨h.size, hdf, fun i => (h.tm i).mono hev, hm, fun x u hx => ⟨(h.fr x u hx).1, (h.fr x u hx).2.mono hev⟩⟩
  | some d =>
    refine ⟨?_, hdf, fun i => ?_, hm, fun x u hx => ⟨(h.fr x u hx).1, (h.fr x u hx).2.mono hev⟩⟩
    · show (a.tmps.setIfInBounds d u).size = s.n
      rw [Array.size_setIfInBounds]; exact h.size
    · show RepA M' ρ' (excl X M' ρ') w' (upd s.t d v i) ((a.tmps.setIfInBounds d u).getD i undef)
      have hlt : d < a.tmps.size := by rw [h.size]; exact hd d rfl
      by_cases e : i = d
      · subst e
        rw [upd_same, Array.getD_eq_getD_getElem?, Array.getElem?_setIfInBounds_self_of_lt hlt]
        exact hv
      · rw [upd_ne _ _ e, Array.getD_eq_getD_getElem?, Array.getElem?_setIfInBounds_ne (Ne.symm e), ← Array.getD_eq_getD_getElem?]
        exact (h.tm i).mono hev

theorem Sim.put' {M' : List MO} {ρ' : Nat → Option Nat} {w' : World} (h : Sim X O w0 F s ρ a w) (hm : MemOk X O w0 M' ρ' w') (hev : Keeps s.M M' ρ ρ' (excl X s.M ρ) (excl X M' ρ') w w') (hkd : ∀ D, ¬ X D → w.heap[D]? = some (.deferred (some [])) → w'.heap[D]? = w.heap[D]?) {d : Option Nat} (hd : ∀ x, d = some x → x < s.n) {v : AV} {u : Value}
    (hv : RepA M' ρ' (excl X M' ρ') w' v u) : Sim X O w0 F ({ s with M := M' }.put d v) ρ' (a.put d u) w' := by
  have hdf := h.defers.keep hkd
  cases d with
  | none => exact ⟨h.size, hdf, fun i => hev _ _ (h.tm i), hm, fun x u hx => ⟨(h.fr x u hx).1, hev _ _ (h.fr x u hx).2⟩⟩
  | some d =>
    refine ⟨?_, hdf, fun i => ?_, hm, fun x u hx => ⟨(h.fr x u hx).1, hev _ _ (h.fr x u hx).2⟩⟩
    · show (a.tmps.setIfInBounds d u).size = s.n
      rw [Array.size_setIfInBounds]; exact h.size
    · show RepA M' ρ' (excl X M' ρ') w' (upd s.t d v i) ((a.tmps.setIfInBounds d u).getD i undef)
      have hlt : d < a.tmps.size := by rw [h.size]; exact hd d rfl
      by_cases e : i = d
      · subst e
        rw [upd_same, Array.getD_eq_getD_getElem?, Array.getElem?_setIfInBounds_self_of_lt hlt]
        exact hv
      · rw [upd_ne _ _ e, Array.getD_eq_getD_getElem?, Array.getElem?_setIfInBounds_ne (Ne.symm e), ← Array.getD_eq_getD_getElem?]
        exact hev _ _ (h.tm i)

theorem want_sound {ops : Array Oper} (h : Sim X O w0 F s ρ a w) {o : Oper} {b : Bool} (hw : s.want ops.toList o = some b) : Region.wanted o (yielded ops a.tmps) = b := by
  unfold St.want at hw
  unfold Region.wanted
  split at hw
  · rename_i hg; rw [hg]; cases hw; rfl
  · rename_i j w' hg
    rw [hg]
    split at hw
    · rename_i d hd
      split at hw
      · rename_i b' hb
        cases hw
        have h1 := h.tm d
        rw [hb] at h1
        have h2 := inv_bool h1
        have h3 : a.tmps[d]? = some (.bool b') := by
          rw [Array.getD_eq_getD_getElem?] at h2
          cases ht : a.tmps[d]? with
          | none => rw [ht] at h2; cases h2
          | some v => rw [ht] at h2; simp at h2; rw [h2]
        simp only [yielded]
        rw [← Array.getElem?_toList, hd]
        simp only [Option.bind_some, h3]
        cases b' <;> cases w' <;> rfl
      · rename_i hb
        cases hw
        have h1 := h.tm d
        rw [hb] at h1
        have h2 : a.tmps.getD d undef = .tuple #[] := by
          cases h1 with
          | iv _ _ h1 =>
            generalize a.tmps.getD d undef = u at h1
            cases h1 with
            | tup _ vs hl _ =>
              have : vs = #[] := Array.eq_empty_of_size_eq_zero hl
              rw [this]
        simp only [yielded]
        rw [← Array.getElem?_toList, hd]
        simp only [Option.bind_some]
        cases ht : a.tmps[d]? with
        | none => cases w' <;> rfl
        | some v =>
          rw [Array.getD_eq_getD_getElem?, ht] at h2
          simp at h2
          subst h2
          cases w' <;> rfl
      · cases hw
    · cases hw

end

/-! ### fences: any, outside of a round of a range over a function, or in one -/
theorem callsIn_fr {P : Program} {f : FuncId} {args : Array Value} {w : World} {R : Ending → World → Prop} (r : Option Nat) (n : Nat) (h : Calls P f args w R) : CallsIn (fr r) n P f args w R := by
  cases r with
  | none => exact callsIn_wide.2 h
  | some l => exact (callsIn_wide.2 h : CallsIn Fence.wide n P f args w R).inRound l
theorem eff_no_defer {P : Program} {o : Oper} {ev : Operand → AV} {M : List MO} {x : Cls × AV × List MO} (h : eff P o ev M = some x) : ∀ c, o.op ≠ .defer c := by
  intro c hc
  obtain ⟨dst, op, type, pos, after, guard⟩ := o
  subst hc
  simp [eff, effM] at h
theorem call_no_defer {o : Oper} {c : Call} (h : o.op = .call c) : ∀ d, o.op ≠ .defer d := by
  intro d hd; rw [h] at hd; cases hd

/-! ### calls -/
def Callable (P : Program) (f : Nat) : Prop := (match P.funcs[f]? with
  | some fn => !(fn.name == "runtime.NumGoroutine") && fn.body.isSome
  | none => false) = true

theorem run_callFunc {P : Program} {f : Nat} (h : Callable P f) (args : Array Value) (w : World) : (callFunc f args).run P w = .ok (.enter f args) w := by
  unfold Callable at h
  cases hf : P.funcs[f]? with
  | none => rw [hf] at h; cases h
  | some fn =>
    rw [hf] at h
    simp only [Bool.and_eq_true, Bool.not_eq_true'] at h
    obtain ⟨h1, h2⟩ := h
    have h3 : fn.body ≠ none := by intro e; rw [e] at h2; cases h2
    have h4 : fn.name ≠ "runtime.NumGoroutine" := by simpa using h1
    simp [callFunc, hf, h4, h3]

def PCalls (P : Program) (f : Nat) (args : List IV) (r : IV) : Prop :=
  Callable P f ∧ ∀ (w : World) (E : Nat → Prop) (vs : List Value), vs.length = args.length → (∀ (i : Nat) (x : IV) (v : Value), args[i]? = some x → vs[i]? = some v → RepI E w x v) → (∀ b, E b → b < w.heap.size) →
    Calls P f vs.toArray w (fun e w' => ∃ v, e = .returned v ∧ RepI E w' r v ∧ Below w.heap.size w w')

def argsF (M : List MO) : List AV → Option (List IV × List MO)
  | [] => some ([], M)
  | x :: l => (toIVF M x).bind fun (y, M') => (argsF M' l).map fun (ys, M'') => (y :: ys, M'')

section
variable {P : Program} {X O : Nat → Prop} {w0 : World} {F : AV → Value → Prop} {s : St} {ρ : Nat → Option Nat} {a : Act} {w : World}

theorem argsF_sound : ∀ (l : List AV) {M M' : List MO} {ys : List IV} (hm : MemOk X O w0 M ρ w) (vs : List Value) (hl : vs.length = l.length)
    (hx : ∀ (i : Nat) (x : AV) (v : Value), l[i]? = some x → vs[i]? = some v → RepA M ρ (excl X M ρ) w x v) (h : argsF M l = some (ys, M')),
    FreezeOk X O w0 M ρ w M' ∧ ys.length = l.length ∧ ∀ (i : Nat) (y : IV) (v : Value), ys[i]? = some y → vs[i]? = some v → RepI (excl X M' ρ) w y v
  | [], M, M', ys, hm, vs, hl, hx, h => by
    simp [argsF] at h; obtain ⟨rfl, rfl⟩ := h
    exact ⟨⟨hm, Evo.refl _ _ _ _, rfl⟩, rfl, by simp⟩
  | x :: l, M, M', ys, hm, vs, hl, hx, h => by
    cases vs with
    | nil => simp at hl
    | cons v vs =>
    simp only [argsF] at h
    obtain ⟨⟨y, M1⟩, h1, h⟩ := option_bind_some h
    obtain ⟨⟨ys', M2⟩, h2, h⟩ := option_map_some h
    cases h
    obtain ⟨hf, hy, _⟩ := toIVF_sound hm (hx 0 x v rfl rfl) h1
    obtain ⟨hf2, hl2, hy2⟩ := argsF_sound l hf.1 vs (by simpa using hl) (fun i x v h3 h4 => (hx (i + 1) x v h3 h4).mono hf.2.1) h2
    refine ⟨hf.trans hf2, by simp [hl2], fun i y' v' h3 h4 => ?_⟩
    cases i with
    | zero => simp at h3 h4; subst h3 h4; exact hy.mono hf2.2.1.stay
    | succ i => exact hy2 i y' v' (by simpa using h3) (by simpa using h4)

theorem excl_lt {M : List MO} (hm : MemOk X O w0 M ρ w) : ∀ b, excl X M ρ b → b < w.heap.size := by
  rintro b (hX | ⟨k, o, hk, hmut, hρ⟩)
  · exact hm.ext b hX
  · exact hm.lt (lt_of_get hk) hρ

theorem Keep.step {O : Nat → Prop} {w0 w w' : World} (h : Keep O w0 w) (k : Below w.heap.size w w') : Keep O w0 w' :=
  ⟨k.os.trans h.os, k.tape.trans h.tape, k.output.trans h.output, Nat.le_trans h.size k.size, fun b hb hO => (k.block b (Nat.lt_of_lt_of_le hb h.size)).trans (h.block b hb hO)⟩

def IV.flat : IV → Bool
  | .bool _ => true
  | .int _ _ => true
  | .str _ => true
  | .nilp => true
  | .fnc _ => true
  | _ => false
theorem flat_any {E E' : Nat → Prop} {w w' : World} {x : IV} {v : Value} (h : RepI E w x v) (hf : x.flat = true) : RepI E' w' x v := by
  cases h with
  | bool b => exact .bool b
  | int k n => exact .int k n
  | str s => exact .str s
  | nilp => exact .nilp
  | fnc f => exact .fnc f
  | _ => cases hf

end

def Wk (s s' : St) : Prop := s'.n = s.n ∧ ∀ (X O : Nat → Prop) (w0 : World) (F : AV → Value → Prop) (ρ : Nat → Option Nat) (a : Act) (w : World), Sim X O w0 F s ρ a w → ∃ ρ', Sim X O w0 F s' ρ' a w
theorem Wk.refl (s : St) : Wk s s := ⟨rfl, fun _ _ _ _ ρ _ _ h => ⟨ρ, h⟩⟩
theorem Wk.trans {s s' s'' : St} (h : Wk s s') (k : Wk s' s'') : Wk s s'' := ⟨k.1.trans h.1, fun X O w0 F ρ a w hs => by
  obtain ⟨ρ', h1⟩ := h.2 X O w0 F ρ a w hs
  exact k.2 X O w0 F ρ' a w h1⟩

def calleeOf : AV → Option (Nat × List AV)
  | .iv (.fnc f) => some (f, [])
  | .fn f caps => some (f, caps)
  | _ => none

def MCalls (P : Program) (f : Nat) (args : List AV) (M : List MO) (r : AV) (M' : List MO) : Prop :=
  Callable P f ∧ M.length ≤ M'.length ∧ ∀ (X : Nat → Prop) (w : World) (ρ : Nat → Option Nat) (vs : List Value), MemOk X (blocks M ρ) w M ρ w → vs.length = args.length →
    (∀ (i : Nat) (x : AV) (v : Value), args[i]? = some x → vs[i]? = some v → RepA M ρ (excl X M ρ) w x v) →
    Calls P f vs.toArray w (fun e w' => ∃ v ρ', e = .returned v ∧ MemOk X (blocks M ρ) w M' ρ' w' ∧ RepA M' ρ' (excl X M' ρ') w' r v ∧ Keeps M M' ρ ρ' (excl X M ρ) (excl X M' ρ') w w')

def RCalls (P : Program) (f : Nat) (args : List AV) (M : List MO) (R : AV → List MO → Prop) : Prop :=
  Callable P f ∧ (∀ r M', R r M' → M.length ≤ M'.length) ∧ ∀ (X : Nat → Prop) (w : World) (ρ : Nat → Option Nat) (vs : List Value), MemOk X (blocks M ρ) w M ρ w → vs.length = args.length →
    (∀ (i : Nat) (x : AV) (v : Value), args[i]? = some x → vs[i]? = some v → RepA M ρ (excl X M ρ) w x v) →
    Calls P f vs.toArray w (fun e w' => ∃ r M', R r M' ∧ ∃ v ρ', e = .returned v ∧ MemOk X (blocks M ρ) w M' ρ' w' ∧ RepA M' ρ' (excl X M' ρ') w' r v ∧ Keeps M M' ρ ρ' (excl X M ρ) (excl X M' ρ') w w')

theorem inv_fn {M : List MO} {ρ : Nat → Option Nat} {E : Nat → Prop} {w : World} {f : Nat} {cs : List AV} {v : Value} (h : RepA M ρ E w (.fn f cs) v) : ∃ vs, v = .func (.func f) #[] vs ∧ vs.size = cs.length ∧ ∀ (i : Nat) (y : AV) (z : Value), cs[i]? = some y → vs[i]? = some z → RepA M ρ E w y z := by
  cases h with | fn _ _ vs hl h => exact ⟨vs, rfl, hl, h⟩

def ivn : AV → Option IV
  | .iv (.tup _) => none
  | .iv x => some x
  | _ => none
def partsI : List (Nat × AV) → Option (List (Nat × IV))
  | [] => some []
  | (i, x) :: l => (ivn x).bind fun y => (partsI l).map fun ys => (i, y) :: ys
theorem ivn_spec {x : AV} {y : IV} (h : ivn x = some y) : x = .iv y ∧ ∀ M, toIVF M x = some (y, M) := by
  unfold ivn at h
  split at h
  · cases h
  · cases h
    rename_i hx
    refine ⟨rfl, fun M => ?_⟩
    cases y <;> first | rfl | exact absurd rfl (hx _)
  · cases h
theorem partsI_F {M : List MO} : ∀ {l : List (Nat × AV)} {ys : List (Nat × IV)}, partsI l = some ys → partsF M l = some (ys, M)
  | [], ys, h => by cases h; rfl
  | (i, x) :: l, ys, h => by
    simp only [partsI] at h
    obtain ⟨y, h1, h⟩ := option_bind_some h
    obtain ⟨ys', h2, h⟩ := option_map_some h
    cases h
    simp only [partsF, (ivn_spec h1).2 M, Option.bind_some, partsI_F h2, Option.map_some]
def bfz (P : Program) (o : Oper) (ev : Operand → AV) : Option IV := match o.op with
  | .buildSlice t len parts =>
    (tElem P t).bind fun e => (constIV e.zero).bind fun z =>
      if len * e.sz ≤ 16777216 ∧ z.fits e.sz = true then
        (partsI (parts.toList.map fun (i, x) => (i, ev x))).bind fun ps =>
          if ps.all (fun p => p.2.fits e.sz) then (fillRow (List.replicate len z) ps).map fun xs => .sl e.sz xs else none
      else none
  | _ => none

inductive OpStep (P : Program) (ops : List Oper) (o : Oper) : Cls → St → St → Prop
  | bfz (s : St) (y : IV) (hw : s.want ops o = some true) (h : bfz P o s.ev = some y) : OpStep P ops o .p s (s.put o.dst (.iv y))
  | skip (s : St) (hw : s.want ops o = some false) : OpStep P ops o .p s (s.put o.dst (.iv (.tup [])))
  | eff (s : St) (c : Cls) (v : AV) (M' : List MO) (hw : s.want ops o = some true) (h : eff P o s.ev s.M = some (c, v, M')) : OpStep P ops o c s ({ s with M := M' }.put o.dst v)
  | call (s : St) (f : Nat) (c : Call) (x : Operand) (ys : List IV) (r : IV) (hw : s.want ops o = some true) (ho : o.op = .call c) (hc : c.callee = .value x) (hx : s.ev x = .iv (.fnc f))
      (ha : ivs (c.args.toList.map s.ev) = some ys) (h : PCalls P f ys r) : OpStep P ops o .p s (s.put o.dst (.iv r))
  | callF (s : St) (f : Nat) (c : Call) (x : Operand) (ys : List IV) (r : IV) (M' : List MO) (hw : s.want ops o = some true) (ho : o.op = .call c) (hc : c.callee = .value x) (hx : s.ev x = .iv (.fnc f))
      (ha : argsF s.M (c.args.toList.map s.ev) = some (ys, M')) (h : PCalls P f ys r) : OpStep P ops o .w s ({ s with M := M' }.put o.dst (.iv r))
  | callB (s : St) (f : Nat) (c : Call) (x : Operand) (ys : List IV) (r : IV) (M' : List MO) (hw : s.want ops o = some true) (ho : o.op = .call c) (hc : c.callee = .value x) (hx : s.ev x = .iv (.fnc f))
      (ha : argsF s.M (c.args.toList.map s.ev) = some (ys, M')) (h : PCalls P f ys r) (hr : r.flat = true) : OpStep P ops o .r s (s.put o.dst (.iv r))
  | callM (s s1 : St) (hwk : Wk s s1) (f : Nat) (caps : List AV) (c : Call) (x : Operand) (l : List Nat) (xs : List AV) (Ml M' : List MO) (r : AV) (hw : s.want ops o = some true) (ho : o.op = .call c) (hc : c.callee = .value x)
      (hx : calleeOf (s1.ev x) = some (f, caps)) (ha : c.args.toList.map s1.ev ++ caps = rens (sg l s1.M.length) xs) (hp : Part s1.M l Ml) (h : MCalls P f xs Ml r M') :
      OpStep P ops o .w s ({ s1 with M := backM s1.M l M' }.put o.dst (ren (sg l s1.M.length) r))

section
variable {P : Program} {X O : Nat → Prop} {w0 : World} {F : AV → Value → Prop} {s : St} {ρ : Nat → Option Nat} {a : Act} {w : World}

theorem bfz_sound (hm : MemOk X O w0 s.M ρ w) {o : Oper} {ev : Operand → AV} {rv : Operand → Value} (hev : ∀ x, RepA s.M ρ (excl X s.M ρ) w (ev x) (rv x)) {y : IV} (h : bfz P o ev = some y) :
    ∃ u w', (execOp rv o).run P w = .ok (.value u) w' ∧ RepI (excl X s.M ρ) w' y u ∧ Below w.heap.size w w' := by
  obtain ⟨dst, op, type, pos, after, guard⟩ := o
  unfold bfz at h
  split at h
  · rename_i t len parts hop
    simp only at hop
    subst hop
    obtain ⟨e, he, h⟩ := option_bind_some h
    obtain ⟨z, hz, h⟩ := option_bind_some h
    split at h
    · rename_i hc
      obtain ⟨ys, hq, h⟩ := option_bind_some h
      split at h
      · rename_i hyf
        obtain ⟨xs, hx, h⟩ := option_map_some h
        cases h
        have hps : ∀ (i : Nat) (p : Nat × AV) (q : Nat × Value), (parts.toList.map fun (i, x) => (i, ev x))[i]? = some p → (parts.map fun (i, x) => (i, rv x))[i]? = some q → p.1 = q.1 ∧ RepA s.M ρ (excl X s.M ρ) w p.2 q.2 := by
          intro i p q hp hq
          obtain ⟨a, g1, rfl⟩ := map_get hp
          rw [Array.getElem?_map] at hq
          rw [Array.getElem?_toList] at g1
          rw [g1] at hq; cases hq
          exact ⟨rfl, hev _⟩
        have hl : (parts.map fun (i, x) => (i, rv x)).size = (parts.toList.map fun (i, x) => (i, ev x)).length := by simp
        simp only [execOp]
        generalize (parts.map fun (i, x) => (i, rv x)) = vps at hps hl ⊢
        obtain ⟨h3, i, hi, his, hby, hiz, hzs, hsz, hpos⟩ := tElem_spec he
        obtain ⟨hfr, hyl, hy⟩ := partsF_sound _ hm vps.toList (by simpa using hl) (fun i p q h1 h2 => hps i p q h1 (by simpa using h2)) (partsI_F (M := s.M) hq)
        obtain ⟨hz1, hz2⟩ := constIV_sound (E := excl X s.M ρ) (w := w) hz
        obtain ⟨us, k1, k2, k3, k4, k5⟩ := fillRow_sound (E := excl X s.M ρ) (w := w) (sz := e.sz) ys vps.toList (List.replicate len z) xs ((Array.range (len * e.sz)).map fun p => e.zero.cells[p % e.zero.cells.size]!) (by simp)
          (fits_replicate hc.2) (zeros_rep hz1 hz2 hc.2) (by simp [hyl, hl]) hy (fun p hp' => by simp at hyf; exact hyf p.1 p.2 hp') hx
        simp only [List.length_replicate] at k3
        have hr : (Instr.buildSlice t len vps).run P w = .ok (.slice (some ⟨w.heap.size, 0, none⟩) len len) (w.alloc (.cells us e.T)) := by
          have h1 : ¬ (16777216 < len * e.sz) := by omega
          by_cases hn0 : len * e.sz = 0
          · rw [hn0] at k1
            simp [Instr.buildSlice, run_underlying h3, run_sizeOf hi, his, hn0, newRow, Array.range_zero'] at k1 ⊢
            simp [k1]
          · simp [Instr.buildSlice, run_underlying h3, run_sizeOf hi, his, h1, hn0, run_zeroValue hi hiz, k1, newRow]
        subst k3
        have hbl : Below w.heap.size w (w.alloc (.cells us e.T)) := (Below.refl _ w).alloc (Nat.le_refl _) _
        have hst : Stay (excl X s.M ρ) (excl X s.M ρ) w (w.alloc (.cells us e.T)) := ⟨hbl.size, fun b hb hE => ⟨hbl.block b hb, hE⟩⟩
        have hus : us.size = xs.length * e.sz := by rw [k2]; simp
        refine ⟨_, _, vrun hr, ?_, hbl⟩
        refine .sl e.sz xs w.heap.size 0 xs.length (fun i j => us[i * e.sz + j]?.getD undef) (Nat.le_refl _) (fun hE => Nat.lt_irrefl _ (excl_lt hm _ hE)) (by simp) k4 (fun i j hi' hj => ?_) (fun i x j y hx' hy' => ?_)
        · have hlt : i * e.sz + j < us.size := by
            rw [hus]
            have : (i + 1) * e.sz ≤ xs.length * e.sz := Nat.mul_le_mul_right _ hi'
            rw [Nat.add_mul] at this; omega
          have h5 : (w.alloc (.cells us e.T)).heap[w.heap.size]? = some (.cells us e.T (0, 0)) := (News.alloc w _).new
          unfold World.cell?
          rw [h5]
          simp [hlt]
        · obtain ⟨u, g1, g2⟩ := k5 i x j y hx' hy'
          rw [g1]; exact g2.mono hst
      · cases h
    · cases h
  · cases h
theorem bfz_no_defer {o : Oper} {ev : Operand → AV} {y : IV} (h : bfz P o ev = some y) : ∀ c, o.op ≠ .defer c := by
  intro c hc
  unfold bfz at h
  rw [hc] at h
  cases h

theorem opStep_sound {rd : Option Nat} {ops : Array Oper} {o : Oper} {c : Cls} {s' : St} (hst : OpStep P ops.toList o c s s') (hd : ∀ x, o.dst = some x → x < s.n) (hs : Sim X O w0 F s ρ a w) {K : Act → World → Prop} {Q : Exit → Act → World → Prop}
    (hK : ∀ a' w' ρ', Sim X O w0 F s' ρ' a' w' → K a' w') : if Region.wanted o (yielded ops a.tmps) then o.wpIn (fr rd) 0 P a w K Q else K (a.put o.dst undef) w := by
  have callgen : ∀ (f : Nat) (c : Call) (x : Operand), o.op = .call c → c.callee = .value x → s.ev x = .iv (.fnc f) → Callable P f →
      (execOp a.eval o).run P w = .ok (.enter f (c.args.map a.eval)) w := by
    intro f c x ho hc hx hcall
    have hv := hs.ev x
    rw [hx] at hv
    have hv := inv_fnc hv
    simp only [execOp, ho, resolve, hc, hv, Deferred.ofValue]
    simp [invoke, run_callFunc hcall]
  cases hst with
  | bfz _ y hw h =>
    rw [want_sound hs hw, if_pos rfl]
    obtain ⟨u, w', h1, h2, hb⟩ := bfz_sound (P := P) hs.mem hs.ev h
    refine ⟨fun _ _ => fr_fn _ _, ?_⟩
    rw [Oper.semAt_eq _ _ _ (bfz_no_defer h), h1]
    have hm' := hs.mem.world (hs.mem.keep.step hb) hb.size (fun j hj => hb.block j hj)
    exact hK _ _ ρ (by simpa using hs.put hm' (Evo.world hb.size (fun j hj => hb.block j hj)) hd (.iv _ _ h2))
  | skip _ hw =>
    rw [want_sound hs hw, if_neg (by simp)]
    exact hK _ _ ρ (by simpa using hs.put hs.mem (Evo.refl _ _ _ _) hd (.iv _ undef (.tup [] #[] rfl (by simp))))
  | eff _ _ v M' hw h =>
    rw [want_sound hs hw, if_pos rfl]
    obtain ⟨nx, u, w', ρ', h1, h2, h3, h4, h5⟩ := eff_sound (P := P) hs.mem o s.ev a.eval hs.ev (fun v => rfl) h
    have hfin := hK _ _ ρ' (hs.put h4 h5 hd h3)
    refine ⟨fun _ _ => fr_fn _ _, ?_⟩
    rw [Oper.semAt_eq _ _ _ (eff_no_defer h), h1]
    rcases h2 with rfl | ⟨rfl, rfl⟩
    · exact hfin
    · exact hfin
  | call _ f c x ys r hw ho hc hx ha h =>
    rw [want_sound hs hw, if_pos rfl]
    obtain ⟨hcall, h⟩ := h
    refine ⟨fun _ _ => fr_fn _ _, ?_⟩
    rw [Oper.semAt_eq _ _ _ (call_no_defer ho), callgen f c x ho hc hx hcall, Oper.uponIn_enter]
    refine ⟨fun hh => by simp [fr_depth] at hh, callsIn_fr rd _ ?_⟩
    have hys := ivs_spec ha
    have e1 : (c.args.map a.eval) = (c.args.toList.map a.eval).toArray := by rw [← Array.toList_map]
    rw [e1]
    refine (h w (excl X s.M ρ) (c.args.toList.map a.eval) (by have := congrArg List.length hys; simpa using this) (fun i y v hy hv => ?_) (excl_lt hs.mem)).mono (fun e w' hR => ?_)
    · obtain ⟨p, g1, rfl⟩ := map_get hv
      have : (c.args.toList.map s.ev)[i]? = some (.iv y) := by rw [hys, List.getElem?_map, hy]; rfl
      rw [List.getElem?_map, g1] at this
      have h2 := hs.ev p
      simp only [Option.map_some, Option.some.injEq] at this
      rw [this] at h2
      cases h2 with | iv _ _ h2 => exact h2
    · obtain ⟨v, rfl, hv, hb⟩ := hR
      have hm' := hs.mem.world (hs.mem.keep.step hb) hb.size (fun j hj => hb.block j hj)
      exact hK _ _ ρ (by simpa using hs.put hm' (Evo.world hb.size (fun j hj => hb.block j hj)) hd (.iv _ _ hv))
  | callF _ f c x ys r M' hw ho hc hx ha h =>
    rw [want_sound hs hw, if_pos rfl]
    obtain ⟨hcall, h⟩ := h
    refine ⟨fun _ _ => fr_fn _ _, ?_⟩
    rw [Oper.semAt_eq _ _ _ (call_no_defer ho), callgen f c x ho hc hx hcall, Oper.uponIn_enter]
    refine ⟨fun hh => by simp [fr_depth] at hh, callsIn_fr rd _ ?_⟩
    have e1 : (c.args.map a.eval) = (c.args.toList.map a.eval).toArray := by rw [← Array.toList_map]
    rw [e1]
    obtain ⟨hf, hl, hy⟩ := argsF_sound (w := w) (c.args.toList.map s.ev) hs.mem (c.args.toList.map a.eval) (by simp) (args_rep hs.ev _) ha
    refine (h w (excl X M' ρ) (c.args.toList.map a.eval) (by rw [hl]; simp) hy (excl_lt hf.1)).mono (fun e w' hR => ?_)
    obtain ⟨v, rfl, hv, hb⟩ := hR
    have hm' := hf.1.world (hf.1.keep.step hb) hb.size (fun j hj => hb.block j hj)
    exact hK _ _ ρ (hs.put hm' (hf.2.1.trans (Evo.world hb.size (fun j hj => hb.block j hj))) hd (.iv _ _ hv))
  | callB _ f c x ys r M' hw ho hc hx ha h hr =>
    rw [want_sound hs hw, if_pos rfl]
    obtain ⟨hcall, h⟩ := h
    refine ⟨fun _ _ => fr_fn _ _, ?_⟩
    rw [Oper.semAt_eq _ _ _ (call_no_defer ho), callgen f c x ho hc hx hcall, Oper.uponIn_enter]
    refine ⟨fun hh => by simp [fr_depth] at hh, callsIn_fr rd _ ?_⟩
    have e1 : (c.args.map a.eval) = (c.args.toList.map a.eval).toArray := by rw [← Array.toList_map]
    rw [e1]
    obtain ⟨hf, hl, hy⟩ := argsF_sound (w := w) (c.args.toList.map s.ev) hs.mem (c.args.toList.map a.eval) (by simp) (args_rep hs.ev _) ha
    refine (h w (excl X M' ρ) (c.args.toList.map a.eval) (by rw [hl]; simp) hy (excl_lt hf.1)).mono (fun e w' hR => ?_)
    obtain ⟨v, rfl, hv, hb⟩ := hR
    have hm' := hs.mem.world (hs.mem.keep.step hb) hb.size (fun j hj => hb.block j hj)
    exact hK _ _ ρ (by simpa using hs.put hm' (Evo.world hb.size (fun j hj => hb.block j hj)) hd (.iv _ _ (flat_any hv hr)))
  | callM _ s1 hwk f caps c x l xs Ml M' r hw ho hc hx ha hp h =>
    rw [want_sound hs hw, if_pos rfl]
    obtain ⟨hcall, hlen, h⟩ := h
    obtain ⟨ρ1, hs1⟩ := hwk.2 X O w0 F ρ a w hs
    -- the callee and what it was made with
    obtain ⟨cvs, hcv, hcl, hcr⟩ : ∃ cvs : Array Value, a.eval x = .func (.func f) #[] cvs ∧ cvs.size = caps.length ∧ ∀ (i : Nat) (y : AV) (z : Value), caps[i]? = some y → cvs[i]? = some z → RepA s1.M ρ1 (excl X s1.M ρ1) w y z := by
      have hv := hs1.ev x
      generalize s1.ev x = y at hv hx
      unfold calleeOf at hx
      split at hx
      · cases hx; exact ⟨#[], inv_fnc hv, rfl, by simp⟩
      · cases hx
        obtain ⟨vs, h1, h2, h3⟩ := inv_fn hv
        exact ⟨vs, h1, h2, h3⟩
      · cases hx
    have hrun : (execOp a.eval o).run P w = .ok (.enter f (c.args.map a.eval ++ cvs)) w := by
      simp only [execOp, ho, resolve, hc, hcv, Deferred.ofValue]
      simp [invoke, run_callFunc hcall]
    refine ⟨fun _ _ => fr_fn _ _, ?_⟩
    rw [Oper.semAt_eq _ _ _ (call_no_defer ho), hrun, Oper.uponIn_enter]
    refine ⟨fun hh => by simp [fr_depth] at hh, callsIn_fr rd _ ?_⟩
    have e1 : (c.args.map a.eval ++ cvs) = (c.args.toList.map a.eval ++ cvs.toList).toArray := by simp [← Array.toList_map]
    rw [e1]
    have hlen2 : (c.args.toList.map a.eval ++ cvs.toList).length = xs.length := by
      have := congrArg List.length ha
      rw [rens_len] at this
      rw [← this]; simp [hcl]
    have hargs : ∀ (i : Nat) (y : AV) (v : Value), (c.args.toList.map s1.ev ++ caps)[i]? = some y → (c.args.toList.map a.eval ++ cvs.toList)[i]? = some v → RepA s1.M ρ1 (excl X s1.M ρ1) w y v := by
      intro i y v h1 h2
      rw [List.getElem?_append] at h1 h2
      simp only [List.length_map] at h1 h2
      split at h1
      · rename_i hi
        rw [if_pos hi] at h2
        exact args_rep hs1.ev _ i y v h1 h2
      · rename_i hi
        rw [if_neg hi] at h2
        exact hcr _ y v h1 (by simpa using h2)
    have hm := hs1.mem.part hp
    refine (h (othX X s1.M ρ1 l) w (partρ ρ1 l) (c.args.toList.map a.eval ++ cvs.toList) hm hlen2 (fun i y v h1 h2 => ?_)).mono (fun e w' hR => ?_)
    · rw [excl_part hp]
      exact (hargs i _ v (by rw [ha, rens_get, h1]; rfl) h2).part hp y rfl
    · obtain ⟨v, ρ', rfl, h1, h2, h3⟩ := hR
      rw [excl_part hp] at h3
      have hb : Back s1.M l M' (backM s1.M l M') ρ1 ρ' (backρ ρ1 ρ' l s1.M.length) := Back.mk' hp.nd (fun j hj => by
        obtain ⟨i, hi⟩ := List.getElem?_of_mem hj
        obtain ⟨o1, _, g1⟩ := hp.of hi
        exact lt_of_get g1) (by rw [← hp.len]; exact hlen)
      have hm2 := hs1.mem.back hp hb h1 h3
      have hE := excl_back (X := X) hp hb
      have hov : ∀ y u, RepA s1.M ρ1 (excl X s1.M ρ1) w y u → RepA (backM s1.M l M') (backρ ρ1 ρ' l s1.M.length) (excl X (backM s1.M l M') (backρ ρ1 ρ' l s1.M.length)) w' y u := by
        intro y u hy
        rw [hE]
        exact hy.over hp hs1.mem hb h1.keep h3
      exact hK _ _ _ (hs1.put' hm2 hov (fun D _ hD => hm.dkeep h1 D hD) (fun d hd' => by rw [hwk.1]; exact hd d hd') (by rw [hE]; exact h2.back hb))

end

def bytR (t : ByteArray) : List IV := t.data.toList.map fun b => .int .u8 b.toNat
theorem step_bytes {P : Program} {X O : Nat → Prop} {w0 : World} {M : List MO} {ρ : Nat → Option Nat} {w : World} (hm : MemOk X O w0 M ρ w) {src dst : TypeId} {e : Elem} {t : ByteArray} (hs : tKind P src = some .str) (hd : tElem P dst = some e) (he : tKind P e.T = some (.int .u8)) :
    StepOk P X O w0 M ρ w (.msl M.length 0 (bytR t).length (bytR t).length) (M ++ [.row true e.T 1 (bytR t)]) ((do pure (Next.value (← convert src dst (.string t))) : Sem Next).run P w) := by
  have hlen : (bytR t).length = t.size := by unfold bytR; rw [List.length_map, Array.length_toList]; rfl
  have hg := grownCap_ge w t.size 0 e.T
  have hdl : t.data.size = t.size := rfl
  have hrun := run_bytes_of_string w src dst e.T t (tKind_str hs) (tElem_spec hd).1 (tKind_int he)
  refine step_newrowF (P := P) hm e.T (sz := 1) (xs := bytR t) (arr := bytesRow t (grownCap w t.size 0 e.T)) (cap := grownCap w t.size 0 e.T) (by omega) ?_ ?_ ?_ (fz := ((bytesRow t (grownCap w t.size 0 e.T)).size, (bytesRow t (grownCap w t.size 0 e.T)).size + 1)) ?_ (w' := w.drew.alloc (.cells (bytesRow t (grownCap w t.size 0 e.T)) e.T ((bytesRow t (grownCap w t.size 0 e.T)).size, (bytesRow t (grownCap w t.size 0 e.T)).size + 1))) ⟨rfl, rfl, rfl, rfl⟩ (by rw [hlen]; exact vrun hrun)
  · unfold bytesRow
    simp only [Array.size_append, Array.size_map, Array.size_replicate]
    omega
  · intro i x hx
    obtain ⟨b, _, rfl⟩ := map_get hx
    rfl
  · intro i x j y hx hy
    obtain ⟨b, hb, rfl⟩ := map_get hx
    have hj : j = 0 := by
      have := lt_of_get hy
      simp only [IV.cells, List.length_singleton] at this
      omega
    subst hj
    have hy2 : y = .int .u8 b.toNat := by simpa [IV.cells] using hy.symm
    subst hy2
    have hlt := lt_of_get hb
    refine ⟨.int .u8 b.toNat, ?_, .int _ _⟩
    unfold bytesRow
    rw [Nat.mul_one, Nat.add_zero, Array.getElem?_append_left (by simpa using hlt), Array.getElem?_map]
    rw [Array.getElem?_toList] at hb
    rw [hb]; rfl
  · intro i hi
    have : ¬ ((bytesRow t (grownCap w t.size 0 e.T)).size ≤ i) := by simp only [slk] at hi; omega
    simp [this]


inductive RelStep (P : Program) (ops : List Oper) (o : Oper) : St → (St → Prop) → Prop
  | mk (s s1 : St) (hwk : Wk s s1) (f : Nat) (caps : List AV) (c : Call) (x : Operand) (l : List Nat) (xs : List AV) (Ml : List MO) (R : AV → List MO → Prop) (hw : s.want ops o = some true) (ho : o.op = .call c) (hc : c.callee = .value x)
      (hx : calleeOf (s1.ev x) = some (f, caps)) (ha : c.args.toList.map s1.ev ++ caps = rens (sg l s1.M.length) xs) (hp : Part s1.M l Ml) (h : RCalls P f xs Ml R) :
      RelStep P ops o s (fun s' => ∃ r M', R r M' ∧ s' = ({ s1 with M := backM s1.M l M' }.put o.dst (ren (sg l s1.M.length) r)))
  | sby (s : St) (src dst : TypeId) (x : Operand) (e : Elem) (t : ByteArray) (hw : s.want ops o = some true) (ho : o.op = .convert src dst x) (hs : tKind P src = some .str) (hd : tElem P dst = some e) (he : tKind P e.T = some (.int .u8)) (hx : s.ev x = .iv (.str t)) :
      RelStep P ops o s (fun s' => s' = ({ s with M := s.M ++ [MO.row true e.T 1 (bytR t)] }.put o.dst (.msl s.M.length 0 (bytR t).length (bytR t).length)))
  | nil (s : St) (t yt : TypeId) (x : Operand) (sz : Nat) (hw : s.want ops o = some true) (ho : o.op = .binOp .eql t x (.const (.slice none 0 0)) yt) (hk : tKind P t = some .slc) (hx : s.ev x = .iv (.sl sz [])) :
      RelStep P ops o s (fun s' => ∃ b : Bool, s' = s.put o.dst (.iv (.bool b)))
  | next (s : St) (x : Operand) (k : Nat) (y : AV) (n : Nat) (sn : List Nat) (ks : List IV) (vs : List AV) (hw : s.want ops o = some true) (ho : o.op = .next x false) (hx : s.ev x = .it k) (hM : s.M[k]? = some (.obj (.miter y n sn)))
      (hmp : mapOf s.M y = some (ks, vs)) (hn : ks.length = n) (hl : ∃ i, i < n ∧ i ∉ sn) :
      RelStep P ops o s (fun s' => ∃ i key v, i < n ∧ i ∉ sn ∧ ks[i]? = some key ∧ vs[i]? = some v ∧ s' = ({ s with M := s.M.set k (.obj (.miter y n (sn ++ [i]))) }.put o.dst (.tup [.iv (.bool true), .iv key, v])))

theorem equalIn_slc_nil {P : Program} {w : World} {t e : TypeId} (h : P.underlying t = some (.slice e)) (n c : Nat) (d : Nat) : (Op.equalIn (d + 1) t (.slice none n c) (.slice none 0 0)).run P w = .ok true w := by
  simp [Op.equalIn, run_underlying h]
theorem equal_slice_any {P : Program} {w : World} {t e : TypeId} (h : P.underlying t = some (.slice e)) (A : Option Addr) (n c : Nat) : ∃ b, (Op.equal t (.slice A n c) (.slice none 0 0)).run P w = .ok b w := by
  cases A with
  | some a => exact ⟨false, equal_slice_nil h a n c⟩
  | none =>
    exact ⟨true, equalIn_slc_nil h n c 9999⟩
section
variable {P : Program} {X O : Nat → Prop} {w0 : World} {F : AV → Value → Prop} {s : St} {ρ : Nat → Option Nat} {a : Act} {w : World}
theorem relStep_sound {rd : Option Nat} {ops : Array Oper} {o : Oper} {S : St → Prop} (hst : RelStep P ops.toList o s S) (hd : ∀ x, o.dst = some x → x < s.n) (hs : Sim X O w0 F s ρ a w) {K : Act → World → Prop} {Q : Exit → Act → World → Prop}
    (hK : ∀ s', S s' → ∀ a' w' ρ', Sim X O w0 F s' ρ' a' w' → K a' w') : if Region.wanted o (yielded ops a.tmps) then o.wpIn (fr rd) 0 P a w K Q else K (a.put o.dst undef) w := by
  cases hst with
  | next x k y n sn ks vs hw ho hx hM hmp hn hl =>
    rw [want_sound hs hw, if_pos rfl]
    have hv := hs.ev x
    rw [hx] at hv
    obtain ⟨r, hr, hvr, hh⟩ := miter_at hs.mem hv hM hmp hn
    obtain ⟨i0, hi0, hi1⟩ := hl
    rcases hh with ⟨h0, _, _⟩ | ⟨bm, es, clock, g1, g2, g3, g4, g5, g6, g7, g8, g9⟩
    · omega
    obtain ⟨e, he, w1, hw1, hrun⟩ : ∃ e ∈ (leftOf es sn.toArray).toList, ∃ w1 : World, (w1 = w ∨ w1 = w.drew) ∧ (Instr.next (.pointer (some ⟨r, 0, none⟩)) false o.type).run P w = .ok (.tuple #[.bool true, e.key, e.val]) (w1.putObj r (.mapIter (some bm) n (sn.toArray.push e.born) clock)) := by
      rcases run_next_at (P := P) w o.type r bm n n sn.toArray es clock g1 g2 (fun x hx => by
        obtain ⟨i, hi, rfl⟩ := List.getElem_of_mem hx
        have := g3.2 i _ (Array.getElem?_eq_getElem (by simpa using hi))
        simp at hi ⊢
        rw [this]; omega) (Nat.le_refl _) with ⟨h, _⟩ | ⟨e, he, w1, h1, h2⟩
      · exfalso
        have h3 : leftOf es sn.toArray = #[] := Array.size_eq_zero_iff.1 h
        unfold leftOf at h3
        rw [Array.filter_eq_empty_iff] at h3
        have h4 := h3 (es[i0]'(by omega)) (Array.getElem_mem _)
        rw [g3.2 i0 _ (Array.getElem?_eq_getElem (by omega))] at h4
        exact hi1 (by simpa using h4)
      · exact ⟨e, he, w1, h1, h2⟩
    obtain ⟨i, hi, rfl⟩ : ∃ i, ∃ h : i < es.size, e = es[i] := by
      have : e ∈ es := by unfold leftOf at he; simp at he; exact he.1
      obtain ⟨i, hi, rfl⟩ := Array.getElem_of_mem this
      exact ⟨i, hi, rfl⟩
    have hgi : es[i]? = some es[i] := Array.getElem?_eq_getElem hi
    have hbi := g3.2 i _ hgi
    have hni : i ∉ sn := by
      unfold leftOf at he; simp at he
      rw [hbi] at he
      exact he
    have hki : ks[i]? = some (ks[i]'(by omega)) := List.getElem?_eq_getElem _
    have hvi : vs[i]? = some (vs[i]'(by omega)) := List.getElem?_eq_getElem _
    have hc : clock = n := g5
    rw [hbi, hc] at hrun
    have hsn : sn.toArray.push i = (sn ++ [i]).toArray := by simp
    rw [hsn] at hrun
    have hlt : r < w1.heap.size := by rcases hw1 with rfl | rfl <;> exact (Array.getElem?_eq_some_iff.1 g1).1
    have hwr : Wrote w (w1.putObj r (.mapIter (some bm) n (sn ++ [i]).toArray n)) r := by
      rcases hw1 with rfl | rfl
      · exact wrote_put g1 _
      · exact ⟨rfl, rfl, rfl, Array.size_setIfInBounds, fun j hj => World.putObj_heap_other hj⟩
    have hE := Evo.set (X := X) k r (.obj (.miter y n sn)) (.obj (.miter y n (sn ++ [i]))) hM hr rfl hwr rfl (hs.mem.other (lt_of_get hM) hr)
    have hyr : RepA s.M ρ (excl X s.M ρ) w y (.map (some bm)) := by
      obtain ⟨r', hr', o', q1, q2⟩ := hs.mem.obj _ _ hM
      rw [hr] at hr'; cases hr'
      rw [g1] at q1; cases q1
      exact q2
    have hm' := hs.mem.set k r _ (.obj (.miter y n (sn ++ [i]))) hM hr hwr hE ⟨r, hr, some bm, World.putObj_heap_same hlt, hyr.mono hE⟩
    refine ⟨fun _ _ => fr_fn _ _, ?_⟩
    have hex : (execOp a.eval o).run P w = .ok (.value (.tuple #[.bool true, es[i].key, es[i].val])) (w1.putObj r (.mapIter (some bm) n (sn ++ [i]).toArray n)) := by
      obtain ⟨dst, op, type, pos, after, guard⟩ := o
      subst ho
      simp only [execOp]
      refine vrun ?_
      rw [hvr]; exact hrun
    rw [Oper.semAt_eq _ _ _ (fun d hd => by rw [ho] at hd; cases hd), hex]
    refine hK _ ⟨i, _, _, by omega, hni, hki, hvi, rfl⟩ _ _ ρ (hs.put hm' hE hd (.tup _ _ rfl (fun j q z hq hz => ?_)))
    match j with
    | 0 => simp at hq hz; subst hq hz; exact .iv _ _ (.bool true)
    | 1 => simp at hq hz; subst hq hz; exact .iv _ _ ((g8 i _ _ hgi hki).mono hE.stay)
    | 2 => simp at hq hz; subst hq hz; exact (g9 i _ _ hgi hvi).mono hE
    | j + 3 => simp at hq
  | sby src dst x e t hw ho hk hde he hx =>
    rw [want_sound hs hw, if_pos rfl]
    have hv := hs.ev x
    rw [hx] at hv
    have hrx : a.eval x = .string t := by
      generalize a.eval x = vv at hv
      cases hv with
      | iv _ _ hi => cases hi; rfl
    have hrun : (execOp a.eval o).run P w = (do pure (Next.value (← convert src dst (.string t))) : Sem Next).run P w := by
      obtain ⟨dst, op, type, pos, after, guard⟩ := o
      cases ho
      simp only [execOp, hrx]
    obtain ⟨nx, u, w', ρ', h1, h2, h3, h4, h5⟩ := step_bytes (P := P) hs.mem (t := t) hk hde he
    have hfin := hK _ rfl _ _ ρ' (hs.put h4 h5 hd h3)
    refine ⟨fun _ _ => fr_fn _ _, ?_⟩
    rw [Oper.semAt_eq _ _ _ (by intro c hc; rw [ho] at hc; cases hc), hrun, h1]
    rcases h2 with rfl | ⟨rfl, rfl⟩
    · exact hfin
    · exact hfin
  | nil t yt x sz hw ho hk hx =>
    rw [want_sound hs hw, if_pos rfl]
    obtain ⟨e, he⟩ := tKind_slc hk
    have hv := hs.ev x
    rw [hx] at hv
    obtain ⟨A, cc, hrx⟩ : ∃ A cc, a.eval x = .slice A 0 cc := by
      cases hv with
      | iv _ _ hi =>
        generalize a.eval x = vv at hi
        cases hi with
        | sl0 => exact ⟨_, _, rfl⟩
        | sl _ _ bb oo cc => exact ⟨_, _, rfl⟩
    obtain ⟨b, hb⟩ := equal_slice_any (w := w) he A 0 cc
    have hrun : (execOp a.eval o).run P w = .ok (.value (.bool b)) w := by
      obtain ⟨dst, op, type, pos, after, guard⟩ := o
      subst ho
      refine vrun ?_
      rw [hrx, show a.eval (.const (.slice none 0 0)) = .slice none 0 0 from rfl, eqGuard_at_slice]
      simp [binOp, hb]
    refine ⟨fun _ _ => fr_fn _ _, ?_⟩
    rw [Oper.semAt_eq _ _ _ (fun d hd => by rw [ho] at hd; cases hd), hrun]
    exact hK _ ⟨b, rfl⟩ _ _ ρ (by simpa using hs.put hs.mem (Evo.refl _ _ _ _) hd (.iv _ _ (.bool b)))
  | mk s1 hwk f caps c x l xs Ml R hw ho hc hx ha hp h =>
  rw [want_sound hs hw, if_pos rfl]
  obtain ⟨hcall, hlen, h⟩ := h
  obtain ⟨ρ1, hs1⟩ := hwk.2 X O w0 F ρ a w hs
  -- the callee and what it was made with
  obtain ⟨cvs, hcv, hcl, hcr⟩ : ∃ cvs : Array Value, a.eval x = .func (.func f) #[] cvs ∧ cvs.size = caps.length ∧ ∀ (i : Nat) (y : AV) (z : Value), caps[i]? = some y → cvs[i]? = some z → RepA s1.M ρ1 (excl X s1.M ρ1) w y z := by
    have hv := hs1.ev x
    generalize s1.ev x = y at hv hx
    unfold calleeOf at hx
    split at hx
    · cases hx; exact ⟨#[], inv_fnc hv, rfl, by simp⟩
    · cases hx
      obtain ⟨vs, h1, h2, h3⟩ := inv_fn hv
      exact ⟨vs, h1, h2, h3⟩
    · cases hx
  have hrun : (execOp a.eval o).run P w = .ok (.enter f (c.args.map a.eval ++ cvs)) w := by
    simp only [execOp, ho, resolve, hc, hcv, Deferred.ofValue]
    simp [invoke, run_callFunc hcall]
  refine ⟨fun _ _ => fr_fn _ _, ?_⟩
  rw [Oper.semAt_eq _ _ _ (call_no_defer ho), hrun, Oper.uponIn_enter]
  refine ⟨fun hh => by simp [fr_depth] at hh, callsIn_fr rd _ ?_⟩
  have e1 : (c.args.map a.eval ++ cvs) = (c.args.toList.map a.eval ++ cvs.toList).toArray := by simp [← Array.toList_map]
  rw [e1]
  have hlen2 : (c.args.toList.map a.eval ++ cvs.toList).length = xs.length := by
    have := congrArg List.length ha
    rw [rens_len] at this
    rw [← this]; simp [hcl]
  have hargs : ∀ (i : Nat) (y : AV) (v : Value), (c.args.toList.map s1.ev ++ caps)[i]? = some y → (c.args.toList.map a.eval ++ cvs.toList)[i]? = some v → RepA s1.M ρ1 (excl X s1.M ρ1) w y v := by
    intro i y v h1 h2
    rw [List.getElem?_append] at h1 h2
    simp only [List.length_map] at h1 h2
    split at h1
    · rename_i hi
      rw [if_pos hi] at h2
      exact args_rep hs1.ev _ i y v h1 h2
    · rename_i hi
      rw [if_neg hi] at h2
      exact hcr _ y v h1 (by simpa using h2)
  have hm := hs1.mem.part hp
  refine (h (othX X s1.M ρ1 l) w (partρ ρ1 l) (c.args.toList.map a.eval ++ cvs.toList) hm hlen2 (fun i y v h1 h2 => ?_)).mono (fun e w' hR => ?_)
  · rw [excl_part hp]
    exact (hargs i _ v (by rw [ha, rens_get, h1]; rfl) h2).part hp y rfl
  · obtain ⟨r, M', hRR, v, ρ', rfl, h1, h2, h3⟩ := hR
    have hlen := hlen r M' hRR
    rw [excl_part hp] at h3
    have hb : Back s1.M l M' (backM s1.M l M') ρ1 ρ' (backρ ρ1 ρ' l s1.M.length) := Back.mk' hp.nd (fun j hj => by
      obtain ⟨i, hi⟩ := List.getElem?_of_mem hj
      obtain ⟨o1, _, g1⟩ := hp.of hi
      exact lt_of_get g1) (by rw [← hp.len]; exact hlen)
    have hm2 := hs1.mem.back hp hb h1 h3
    have hE := excl_back (X := X) hp hb
    have hov : ∀ y u, RepA s1.M ρ1 (excl X s1.M ρ1) w y u → RepA (backM s1.M l M') (backρ ρ1 ρ' l s1.M.length) (excl X (backM s1.M l M') (backρ ρ1 ρ' l s1.M.length)) w' y u := by
      intro y u hy
      rw [hE]
      exact hy.over hp hs1.mem hb h1.keep h3
    exact hK _ ⟨r, M', hRR, rfl⟩ _ _ _ (hs1.put' hm2 hov (fun D _ hD => hm.dkeep h1 D hD) (fun d hd' => by rw [hwk.1]; exact hd d hd') (by rw [hE]; exact h2.back hb))

end

def aops (P : Program) (ops : List Oper) : List Oper → (St → Prop) → St → Prop
  | [], K, s => K s
  | o :: rest, K, s => (∃ c s', OpStep P ops o c s s' ∧ aops P ops rest K s') ∨ (∃ S, RelStep P ops o s S ∧ ∀ s', S s' → aops P ops rest K s')

theorem put_n (s : St) (M' : List MO) (d : Option Nat) (v : AV) : ({ s with M := M' }.put d v).n = s.n := by cases d <;> rfl
theorem OpStep.n {P : Program} {ops : List Oper} {o : Oper} {c : Cls} {s s' : St} (h : OpStep P ops o c s s') : s'.n = s.n := by
  cases h with
  | bfz => exact put_n s s.M _ _
  | skip => exact put_n s s.M _ _
  | eff => exact put_n s _ _ _
  | call => exact put_n s s.M _ _
  | callF => exact put_n s _ _ _
  | callB => exact put_n s s.M _ _
  | callM _ s1 hwk => exact (put_n s1 _ _ _).trans hwk.1

theorem RelStep.n {P : Program} {ops : List Oper} {o : Oper} {s : St} {S : St → Prop} (h : RelStep P ops o s S) : ∀ s', S s' → s'.n = s.n := by
  cases h with
  | sby src dst x e t hw ho hk hde he hx =>
    rintro s' rfl
    exact put_n s _ _ _
  | nil t yt x sz hw ho hk hx =>
    rintro s' ⟨b, rfl⟩
    exact put_n s s.M _ _
  | next x k y n sn ks vs hw ho hx hM hmp hn hl =>
    rintro s' ⟨i, key, v, _, _, _, _, rfl⟩
    exact put_n s _ _ _
  | mk s1 hwk f caps c x l xs Ml R hw ho hc hx ha hp h =>
    rintro s' ⟨r, M', _, rfl⟩
    exact (put_n s1 _ _ _).trans hwk.1

section
variable {P : Program} {X O : Nat → Prop} {w0 : World} {F : AV → Value → Prop} {s : St} {ρ : Nat → Option Nat} {a : Act} {w : World}

theorem aops_sound {rd : Option Nat} {ops : Array Oper} {K : St → Prop} {Q : Exit → Act → World → Prop} : ∀ (l : List Nat) (lo : List Oper) (s : St) (ρ : Nat → Option Nat) (a : Act) (w : World),
    l.map (fun i => ops[i]?) = lo.map some → (∀ o ∈ lo, ∀ x, o.dst = some x → x < s.n) → aops P ops.toList lo K s → Sim X O w0 F s ρ a w →
    (∀ s' ρ' a' w', Sim X O w0 F s' ρ' a' w' → K s' → Q .normal a' w') → wpOpsIn (fr rd) 0 P ops Q l a w
  | [], lo, s, ρ, a, w, hl, hd, h, hs, hQ => by
    cases lo with
    | nil => exact hQ _ _ _ _ hs h
    | cons => simp at hl
  | i :: l, lo, s, ρ, a, w, hl, hd, h, hs, hQ => by
    cases lo with
    | nil => simp at hl
    | cons o lo =>
      simp only [List.map_cons, List.cons.injEq] at hl
      obtain ⟨ho, hl⟩ := hl
      have := show if Region.wanted o (yielded ops a.tmps) then o.wpIn (fr rd) 0 P a w (wpOpsIn (fr rd) 0 P ops Q l) Q else wpOpsIn (fr rd) 0 P ops Q l (a.put o.dst undef) w from by
        rcases h with ⟨c, s', hst, h⟩ | ⟨S, hst, h⟩
        · exact opStep_sound (Q := Q) (K := wpOpsIn (fr rd) 0 P ops Q l) hst (hd o (by simp)) hs (fun a' w' ρ' hs' =>
            aops_sound l lo s' ρ' a' w' hl (fun o' ho' x hx => by rw [hst.n]; exact hd o' (by simp [ho']) x hx) h hs' hQ)
        · exact relStep_sound (Q := Q) (K := wpOpsIn (fr rd) 0 P ops Q l) hst (hd o (by simp)) hs (fun s' hS a' w' ρ' hs' =>
            aops_sound l lo s' ρ' a' w' hl (fun o' ho' x hx => by rw [hst.n s' hS]; exact hd o' (by simp [ho']) x hx) (h s' hS) hs' hQ)
      simp only [wpOpsIn, ho]
      split
      · rename_i hw; rw [if_pos hw] at this; exact this
      · rename_i hw; rw [if_neg hw] at this; exact ⟨fun _ _ => fr_fn _ _, this⟩

end

end Go.Proofs.YtpjncojljamacaaGreat.AM
set_option linter.unusedVariables false
set_option linter.unusedSimpArgs false
namespace Go.Proofs.YtpjncojljamacaaGreat.AM
open Go Go.RowKit

def dstOk (n : Nat) (o : Oper) : Bool := match o.dst with
  | some d => decide (d < n)
  | none => true
def bnd (out : Bool) (n : Nat) : Code → Bool
  | .region _ ops _ => ops.toList.all (dstOk n)
  | .seq a b => bnd out n a && bnd out n b
  | .cond _ a b => bnd out n a && bnd out n b
  | .block _ c => bnd out n c
  | .loop c => bnd out n c
  | .scope c => bnd out n c
  | .rangeFunc _ _ a b => out && (bnd false n a && bnd false n b)
  | _ => true

def conc (X O : Nat → Prop) (w0 : World) (F : AV → Value → Prop) (n : Nat) (Q : Exit → St → Prop) (e : Exit) (a : Act) (w : World) : Prop := ∃ s ρ, s.n = n ∧ Sim X O w0 F s ρ a w ∧ Q e s

structure Tok {α : Type} (a : α) : Type where
  dummy : Unit
def awT (P : Program) (c : Code) (Q : Exit → St → Prop) (_ : Tok (c, Q)) (s : St) : Prop :=
  ∀ (rd : Option Nat), bnd rd.isNone s.n c = true → ∀ (X O : Nat → Prop) (w0 : World) (F : AV → Value → Prop) (ρ : Nat → Option Nat) (a : Act) (w : World), Sim X O w0 F s ρ a w → c.wpIn (fr rd) 0 P (conc X O w0 F s.n Q) a w

@[reducible] def aw (P : Program) (c : Code) (Q : Exit → St → Prop) (s : St) : Prop := awT P c Q ⟨()⟩ s

def thenQ (K : St → Prop) (Q : Exit → St → Prop) : Exit → St → Prop
  | .normal, s => K s
  | .exit i, s => Q (.exit i) s
  | .goto i, s => Q (.goto i) s
  | .ret, s => Q .ret s
  | .panic c, s => Q (.panic c) s
  | .outgrown, s => Q .outgrown s
def blockQ (id : Nat) (Q : Exit → St → Prop) : Exit → St → Prop
  | .normal, s => Q .normal s
  | .exit i, s => if i = id then Q .normal s else Q (.exit i) s
  | .goto i, s => Q (.goto i) s
  | .ret, s => Q .ret s
  | .panic c, s => Q (.panic c) s
  | .outgrown, s => Q .outgrown s
def scopeQ (Q : Exit → St → Prop) : Exit → St → Prop
  | .goto i, s => False
  | .normal, s => Q .normal s
  | .exit i, s => Q (.exit i) s
  | .ret, s => Q .ret s
  | .panic c, s => Q (.panic c) s
  | .outgrown, s => Q .outgrown s

section
variable {P : Program} {Q : Exit → St → Prop} {s : St}

theorem aw_mono {c : Code} {Q' : Exit → St → Prop} (h : aw P c Q s) (hq : ∀ e s', Q e s' → Q' e s') : aw P c Q' s :=
  fun rd hb X O w0 F ρ a w hs => wpIn_mono (h rd hb X O w0 F ρ a w hs) (fun e a' w' ⟨s', ρ', h1, h2, h3⟩ => ⟨s', ρ', h1, h2, hq _ _ h3⟩)

theorem aw_wk {c : Code} {s' : St} (hw : Wk s s') (h : aw P c Q s') : aw P c Q s := by
  intro rd hb X O w0 F ρ a w hs
  obtain ⟨ρ', h1⟩ := hw.2 X O w0 F ρ a w hs
  have := h rd (by rw [hw.1]; exact hb) X O w0 F ρ' a w h1
  rw [hw.1] at this
  exact this

theorem aw_skip (h : Q .normal s) : aw P .skip Q s := fun rd _ X O w0 F ρ a w hs => wpIn_skip ⟨s, ρ, rfl, hs, h⟩
theorem aw_label {l : Nat} (h : Q .normal s) : aw P (.label l) Q s := fun rd _ X O w0 F ρ a w hs => wpIn_label ⟨s, ρ, rfl, hs, h⟩
theorem aw_exit {i : Nat} (h : Q (.exit i) s) : aw P (.exit i) Q s := fun rd _ X O w0 F ρ a w hs => wpIn_exit ⟨s, ρ, rfl, hs, h⟩
theorem aw_ret (h : Q .ret s) : aw P .ret Q s := fun rd _ X O w0 F ρ a w hs => wpIn_ret ⟨s, ρ, rfl, hs, h⟩

theorem aw_seq {x y : Code} (h : aw P x (thenQ (aw P y Q) Q) s) : aw P (.seq x y) Q s := by
  intro rd hb X O w0 F ρ a w hs
  simp only [bnd, Bool.and_eq_true] at hb
  refine wpIn_seq (wpIn_mono (h rd hb.1 X O w0 F ρ a w hs) ?_)
  rintro e a' w' ⟨s', ρ', hn, h1, h2⟩
  cases e with
  | normal =>
    have := h2 rd (by rw [hn]; exact hb.2) X O w0 F ρ' a' w' h1
    rw [hn] at this
    exact this
  | exit i => exact ⟨s', ρ', hn, h1, h2⟩
  | goto i => exact ⟨s', ρ', hn, h1, h2⟩
  | ret => exact ⟨s', ρ', hn, h1, h2⟩
  | panic c => exact ⟨s', ρ', hn, h1, h2⟩
  | outgrown => exact ⟨s', ρ', hn, h1, h2⟩

theorem aw_cond {c : Operand} {x y : Code} {b : Bool} (hc : s.ev c = .iv (.bool b)) (h1 : b = true → aw P x Q s) (h2 : b = false → aw P y Q s) : aw P (.cond c x y) Q s := by
  intro rd hb X O w0 F ρ a w hs
  simp only [bnd, Bool.and_eq_true] at hb
  have hv := hs.ev c
  rw [hc] at hv
  refine wpIn_cond (inv_bool hv) ?_
  cases b with
  | true => exact h1 rfl rd hb.1 X O w0 F ρ a w hs
  | false => exact h2 rfl rd hb.2 X O w0 F ρ a w hs

theorem aw_block {i : Nat} {c : Code} (h : aw P c (blockQ i Q) s) : aw P (.block i c) Q s := by
  intro rd hb X O w0 F ρ a w hs
  refine wpIn_block (wpIn_mono (h rd hb X O w0 F ρ a w hs) ?_)
  rintro e a' w' ⟨s', ρ', hn, h1, h2⟩
  cases e with
  | normal => exact ⟨s', ρ', hn, h1, h2⟩
  | exit j =>
    show if j = i then _ else _
    by_cases e : j = i
    · rw [if_pos e]
      have h2 : if j = i then Q .normal s' else Q (.exit j) s' := h2
      rw [if_pos e] at h2; exact ⟨s', ρ', hn, h1, h2⟩
    · rw [if_neg e]
      have h2 : if j = i then Q .normal s' else Q (.exit j) s' := h2
      rw [if_neg e] at h2; exact ⟨s', ρ', hn, h1, h2⟩
  | goto i => exact ⟨s', ρ', hn, h1, h2⟩
  | ret => exact ⟨s', ρ', hn, h1, h2⟩
  | panic c => exact ⟨s', ρ', hn, h1, h2⟩
  | outgrown => exact ⟨s', ρ', hn, h1, h2⟩

theorem stepR_scope {P : Program} {b : Frame} {a : Act} {k : List Item} {cs : List Frame} {w : World} {c : Code} : step P (lone (b.atR a (.code (.scope c) :: k)) cs w) = .next (lone (b.atR a (.code c :: .inScope c :: k)) cs w) :=
  step_lone_go (by simp [stepG, stepG.exec, Frame.atR])
theorem stepR_inScope {P : Program} {b : Frame} {a : Act} {k : List Item} {cs : List Frame} {w : World} {c : Code} : step P (lone (b.atR a (.inScope c :: k)) cs w) = .next (lone (b.atR a k) cs w) :=
  step_lone_go (by simp [stepG, stepG.exec, Frame.atR])
theorem wpIn_scope_straight {P : Program} {F : Fence} {n : Nat} {Q : Exit → Act → World → Prop} {a : Act} {w : World} {c : Code} (h : c.wpIn F n P (Exit.noGoto Q) a w) : (Code.scope c).wpIn F n P Q a w := by
  intro b k cs hro hb hr
  have h0 : (lone (b.atR a (.code (.scope c) :: k)) cs w).fenced P F := fenced_calm hb hr rfl
  obtain ⟨e, a₁, w₁, hq, harr⟩ := h b (.inScope c :: k) cs hro hb hr
  cases e with
  | normal => exact ⟨.normal, a₁, w₁, hq, .head h0 stepR_scope (StepsIn.trans harr (.one (fenced_calm hb hr rfl) stepR_inScope))⟩
  | exit id => exact ⟨.exit id, a₁, w₁, hq, fun k' hk => .head h0 stepR_scope (harr.1 k' (by simp [exitTo, hk])), fun hr' hk => let ⟨k₁, h1, h2⟩ := harr.2 hr' (by simp [exitTo, hk]); ⟨k₁, h1, .head h0 stepR_scope h2⟩⟩
  | goto l => exact hq.elim
  | ret => exact ⟨_, a₁, w₁, hq, .of_steps (.one h0 stepR_scope) harr⟩
  | panic ch => exact ⟨_, a₁, w₁, hq, .of_steps (.one h0 stepR_scope) harr⟩
  | outgrown => exact ⟨_, a₁, w₁, hq, .of_steps (.one h0 stepR_scope) harr⟩
theorem aw_scope {c : Code} (h : aw P c (scopeQ Q) s) : aw P (.scope c) Q s := by
  intro rd hb X O w0 F ρ a w hs
  refine wpIn_scope_straight (wpIn_mono (h rd hb X O w0 F ρ a w hs) ?_)
  rintro e a' w' ⟨s', ρ', hn, h1, h2⟩
  cases e with
  | normal => exact ⟨s', ρ', hn, h1, h2⟩
  | exit i => exact ⟨s', ρ', hn, h1, h2⟩
  | goto i => exact h2.elim
  | ret => exact ⟨s', ρ', hn, h1, h2⟩
  | panic c => exact ⟨s', ρ', hn, h1, h2⟩
  | outgrown => exact ⟨s', ρ', hn, h1, h2⟩

theorem aw_loop {c : Code} {α : Type} (S : α → St) (I : α → Prop) (μ : α → Nat) (x0 : α) (h0 : Wk s (S x0)) (hI : I x0)
    (round : ∀ x, I x → aw P c (thenQ (fun s' => ∃ x', I x' ∧ Wk s' (S x') ∧ μ x' < μ x) Q) (S x)) : aw P (.loop c) Q s := by
  intro rd hb X O w0 F ρ a w hs
  have hb : bnd rd.isNone s.n c = true := hb
  obtain ⟨ρ1, hs1⟩ := h0.2 X O w0 F ρ a w hs
  intro b k cs hro hbf hr
  have key : ∀ n x ρ a w, μ x = n → I x → (S x).n = s.n → Sim X O w0 F (S x) ρ a w →
      ∃ e a' w', conc X O w0 F s.n Q e a' w' ∧ ArrivesIn (Machine.fenced P (fr rd)) P (lone (b.atR a (.code c :: .inLoop c :: k)) cs w) b k cs e a' w' := by
    intro n
    induction n using Nat.strongRecOn with
    | _ n ih =>
      intro x ρ a w hn hI hsn hs
      obtain ⟨e, a₁, w₁, hq, harr⟩ := round x hI rd (by rw [hsn]; exact hb) X O w0 F ρ a w hs b (.inLoop c :: k) cs hro hbf hr
      obtain ⟨s', ρ', hn', hs', hq⟩ := hq
      rw [hsn] at hn'
      cases e with
      | normal =>
        obtain ⟨x', hI', hwk, hlt⟩ := hq
        obtain ⟨ρ'', hs''⟩ := hwk.2 X O w0 F ρ' a₁ w₁ hs'
        obtain ⟨e₂, a₂, w₂, hq₂, harr₂⟩ := ih (μ x') (hn ▸ hlt) x' ρ'' a₁ w₁ rfl hI' (hwk.1.trans hn') hs''
        exact ⟨e₂, a₂, w₂, hq₂, .of_steps (StepsIn.trans harr (.one (fenced_calm hbf hr rfl) stepR_inLoop)) harr₂⟩
      | exit id => exact ⟨_, a₁, w₁, ⟨s', ρ', hn', hs', hq⟩, .pass (x := .inLoop c) rfl (fun _ _ => .inl (by simp)) harr⟩
      | goto l => exact ⟨_, a₁, w₁, ⟨s', ρ', hn', hs', hq⟩, .pass (x := .inLoop c) rfl (fun _ _ => .inl (by simp)) harr⟩
      | ret => exact ⟨_, a₁, w₁, ⟨s', ρ', hn', hs', hq⟩, .pass (x := .inLoop c) rfl (fun _ _ => .inl (by simp)) harr⟩
      | panic ch => exact ⟨_, a₁, w₁, ⟨s', ρ', hn', hs', hq⟩, .pass (x := .inLoop c) rfl (fun _ _ => .inl (by simp)) harr⟩
      | outgrown => exact ⟨_, a₁, w₁, ⟨s', ρ', hn', hs', hq⟩, .pass (x := .inLoop c) rfl (fun _ _ => .inl (by simp)) harr⟩
  obtain ⟨e, a', w', hq, harr⟩ := key _ x0 ρ1 a w rfl hI h0.1 hs1
  exact ⟨e, a', w', hq, .of_steps (.one (fenced_calm hbf hr rfl) stepR_loop) harr⟩

theorem aw_region {id : Nat} {ops : List Oper} (h : aops P ops ops (Q .normal) s) : aw P (.region id ops.toArray false) Q s := by
  intro rd hb X O w0 F ρ a w hs
  refine wpIn_region (aops_sound (K := fun s' => s'.n = s.n ∧ Q .normal s') _ ops s ρ a w ?_ ?_ ?_ hs (fun s' ρ' a' w' h1 h2 => ⟨s', ρ', h2.1, h1, h2.2⟩))
  · rw [List.size_toArray]
    apply List.ext_getElem?
    intro i
    simp only [List.getElem?_map]
    by_cases hi : i < ops.length
    · simp [hi]
    · rw [List.getElem?_eq_none (by simpa using hi), List.getElem?_eq_none (by simpa using hi)]; rfl
  · intro o ho x hx
    simp only [bnd, List.all_eq_true] at hb
    have := hb o ho
    simp only [dstOk, hx, decide_eq_true_eq] at this
    exact this
  · have key : ∀ (l : List Oper) (s1 : St), aops P ops l (Q .normal) s1 → aops P ops l (fun s' => s'.n = s1.n ∧ Q .normal s') s1 := by
      intro l
      induction l with
      | nil => intro s1 h; exact ⟨rfl, h⟩
      | cons o l ih =>
        rintro s1 (⟨c, s2, h1, h2⟩ | ⟨S, h1, h2⟩)
        · refine .inl ⟨c, s2, h1, ?_⟩
          have := ih s2 h2
          rw [h1.n] at this
          exact this
        · refine .inr ⟨S, h1, fun s2 hS => ?_⟩
          have := ih s2 (h2 s2 hS)
          rw [h1.n s2 hS] at this
          exact this
    exact key ops s h

end

/-! ### running what calls no function -/
def wantK (o : Option Bool) (f : Bool → Prop) : Prop := match o with
  | none => False
  | some b => (b = true → f true) ∧ (b = false → f false)
def effK (o : Option (Cls × AV × List MO)) (K : AV → List MO → Prop) : Prop := match o with
  | none => False
  | some (_, v, M') => K v M'
def isFCall (o : Oper) : Bool := match o.op with
  | .call c => (match c.callee with
    | .value _ => true
    | _ => false)
  | .next _ false => true
  | _ => false
def runR (P : Program) (ops : List Oper) : List Oper → (St → List Oper → Prop) → St → Prop
  | [], K, s => K s []
  | o :: rest, K, s => wantK (s.want ops o) fun b => if b = true then (if isFCall o = true then K s (o :: rest) else effK (eff P o s.ev s.M) fun v M' => runR P ops rest K ({ s with M := M' }.put o.dst v)) else runR P ops rest K (s.put o.dst (.iv (.tup [])))
def run (P : Program) (ops : List Oper) (l : List Oper) (K : St → List Oper → Prop) (s : St) : Prop := runR P ops l K s
def left (P : Program) (ops : List Oper) (Q : St → Prop) (s : St) (l : List Oper) : Prop := match l with
  | [] => Q s
  | o :: rest => s.want ops o = some true → aops P ops (o :: rest) Q s

theorem aops_run {P : Program} {ops : List Oper} {Q : St → Prop} : ∀ {l : List Oper} {s : St}, run P ops l (fun s l => left P ops Q s l) s → aops P ops l Q s
  | [], s, h => h
  | o :: rest, s, h => by
    simp only [run, runR] at h
    unfold wantK at h
    split at h
    · exact h.elim
    · rename_i b hb
      cases b with
      | false =>
        have h2 : runR P ops rest (fun s l => left P ops Q s l) (s.put o.dst (.iv (.tup []))) := by simpa using h
        exact .inl ⟨.p, _, .skip s hb, aops_run h2⟩
      | true =>
        simp only [forall_const, if_true, reduceCtorEq, false_implies, and_true] at h
        split at h
        · exact h hb
        · unfold effK at h
          split at h
          · exact h.elim
          · rename_i c v M' he
            exact .inl ⟨c, _, .eff s c v M' hb he, aops_run h⟩

section
variable {P : Program} {ops : List Oper} {Q : St → Prop} {s : St} {o : Oper} {rest : List Oper}

theorem left_call {f : Nat} {c : Call} {x : Operand} {ys : List IV} {r : IV} (ho : o.op = .call c) (hc : c.callee = .value x) (hx : s.ev x = .iv (.fnc f)) (ha : ivs (c.args.toList.map s.ev) = some ys)
    (h : PCalls P f ys r) (hk : run P ops rest (fun s l => left P ops Q s l) (s.put o.dst (.iv r))) : left P ops Q s (o :: rest) :=
  fun hw => .inl ⟨_, _, .call s f c x ys r hw ho hc hx ha h, aops_run hk⟩
theorem left_callF {f : Nat} {c : Call} {x : Operand} {ys : List IV} {r : IV} {M' : List MO} (ho : o.op = .call c) (hc : c.callee = .value x) (hx : s.ev x = .iv (.fnc f)) (ha : argsF s.M (c.args.toList.map s.ev) = some (ys, M'))
    (h : PCalls P f ys r) (hk : run P ops rest (fun s l => left P ops Q s l) ({ s with M := M' }.put o.dst (.iv r))) : left P ops Q s (o :: rest) :=
  fun hw => .inl ⟨_, _, .callF s f c x ys r M' hw ho hc hx ha h, aops_run hk⟩
theorem left_callM {s1 : St} {f : Nat} {caps : List AV} {c : Call} {x : Operand} {xs : List AV} {Ml M' : List MO} {r : AV} (l : List Nat) (hwk : Wk s s1) (h : MCalls P f xs Ml r M') (ho : o.op = .call c) (hc : c.callee = .value x)
      (hx : calleeOf (s1.ev x) = some (f, caps)) (ha : c.args.toList.map s1.ev ++ caps = rens (sg l s1.M.length) xs) (hp : Part s1.M l Ml)
      (hk : run P ops rest (fun s l => left P ops Q s l) ({ s1 with M := backM s1.M l M' }.put o.dst (ren (sg l s1.M.length) r))) : left P ops Q s (o :: rest) :=
  fun hw => .inl ⟨_, _, .callM s s1 hwk f caps c x l xs Ml M' r hw ho hc hx ha hp h, aops_run hk⟩

end

theorem aops_nil {P : Program} {ops : List Oper} {Q : St → Prop} {s : St} {o : Oper} {rest : List Oper} (t yt : TypeId) (x : Operand) (sz : Nat) (hw : s.want ops o = some true) (ho : o.op = .binOp .eql t x (.const (.slice none 0 0)) yt) (hk : tKind P t = some .slc) (hx : s.ev x = .iv (.sl sz []))
    (hh : ∀ b : Bool, run P ops rest (fun s l => left P ops Q s l) (s.put o.dst (.iv (.bool b)))) : aops P ops (o :: rest) Q s :=
  .inr ⟨_, .nil s t yt x sz hw ho hk hx, fun s' ⟨b, h⟩ => h ▸ aops_run (hh b)⟩
theorem aops_one {P : Program} {ops : List Oper} {Q : St → Prop} {s : St} {o : Oper} {rest : List Oper} {c : Cls} {v : AV} {M' : List MO} (hw : s.want ops o = some true) (he : eff P o s.ev s.M = some (c, v, M'))
    (hk : aops P ops rest Q ({ s with M := M' }.put o.dst v)) : aops P ops (o :: rest) Q s := .inl ⟨c, _, .eff s c v M' hw he, hk⟩
theorem aops_sby {P : Program} {ops : List Oper} {Q : St → Prop} {s : St} {o : Oper} {rest : List Oper} (src dst : TypeId) (x : Operand) (e : Elem) (t : ByteArray) (hw : s.want ops o = some true) (ho : o.op = .convert src dst x) (hs : tKind P src = some .str) (hd : tElem P dst = some e) (he : tKind P e.T = some (.int .u8)) (hx : s.ev x = .iv (.str t))
    (hk : run P ops rest (fun s l => left P ops Q s l) ({ s with M := s.M ++ [MO.row true e.T 1 (bytR t)] }.put o.dst (.msl s.M.length 0 (bytR t).length (bytR t).length))) : aops P ops (o :: rest) Q s :=
  .inr ⟨_, .sby s src dst x e t hw ho hs hd he hx, fun s' h => h ▸ aops_run hk⟩
theorem left_callR {P : Program} {ops : List Oper} {Q : St → Prop} {s : St} {o : Oper} {rest : List Oper} {s1 : St} {f : Nat} {caps : List AV} {c : Call} {x : Operand} {xs : List AV} {Ml : List MO} {R : AV → List MO → Prop} (l : List Nat) (hwk : Wk s s1) (h : RCalls P f xs Ml R) (ho : o.op = .call c) (hc : c.callee = .value x)
      (hx : calleeOf (s1.ev x) = some (f, caps)) (ha : c.args.toList.map s1.ev ++ caps = rens (sg l s1.M.length) xs) (hp : Part s1.M l Ml)
      (hk : ∀ r M', R r M' → run P ops rest (fun s l => left P ops Q s l) ({ s1 with M := backM s1.M l M' }.put o.dst (ren (sg l s1.M.length) r))) : left P ops Q s (o :: rest) :=
  fun hw => .inr ⟨_, .mk s s1 hwk f caps c x l xs Ml R hw ho hc hx ha hp h, fun s' ⟨r, M', h1, h2⟩ => h2 ▸ aops_run (hk r M' h1)⟩

def nextC (o : Oper) (k : Nat) (y : AV) (n : Nat) (sn : List Nat) (ks : List IV) (vs : List AV) (s : St) : Prop := match o.op with
  | .next x false => s.ev x = .it k ∧ s.M[k]? = some (.obj (.miter y n sn)) ∧ mapOf s.M y = some (ks, vs) ∧ ks.length = n
  | _ => False
theorem left_next {P : Program} {ops : List Oper} {Q : St → Prop} {s : St} {o : Oper} {rest : List Oper} (k : Nat) (y : AV) (n : Nat) (sn : List Nat) (ks : List IV) (vs : List AV) (hc : nextC o k y n sn ks vs s) (hl : ∃ i, i < n ∧ i ∉ sn)
    (hk : ∀ i key v, i < n → i ∉ sn → ks[i]? = some key → vs[i]? = some v → run P ops rest (fun s l => left P ops Q s l) ({ s with M := s.M.set k (.obj (.miter y n (sn ++ [i]))) }.put o.dst (.tup [.iv (.bool true), .iv key, v]))) : left P ops Q s (o :: rest) := by
  unfold nextC at hc
  split at hc
  · rename_i x ho
    obtain ⟨hx, hM, hmp, hn⟩ := hc
    exact fun hw => .inr ⟨_, .next s x k y n sn ks vs hw ho hx hM hmp hn hl, fun s' ⟨i, key, v, h1, h2, h3, h4, h5⟩ => h5 ▸ aops_run (hk i key v h1 h2 h3 h4)⟩
  · exact hc.elim
theorem left_nextE {P : Program} {ops : List Oper} {Q : St → Prop} {s : St} {o : Oper} {rest : List Oper} (k : Nat) (y : AV) (n : Nat) (sn : List Nat) (ks : List IV) (vs : List AV) (hc : nextC o k y n sn ks vs s) (hl : ∀ i, i < n → i ∈ sn)
    (hk : run P ops rest (fun s l => left P ops Q s l) (s.put o.dst (.iv (.tup [.bool false])))) : left P ops Q s (o :: rest) := by
  unfold nextC at hc
  split at hc
  · rename_i x ho
    obtain ⟨hx, hM, hmp, hn⟩ := hc
    refine fun hw => .inl ⟨.w, _, .eff s .w (.iv (.tup [.bool false])) s.M hw ?_, aops_run hk⟩
    obtain ⟨dst, op, type, pos, after, guard⟩ := o
    subst ho
    show nextEV (s.ev x) s.M = _
    simp only [nextEV, hx, hM, hmp, Option.bind_some]
    rw [if_pos ⟨hn, hl⟩]
  · exact hc.elim

/-! ### from a body to a call -/
def argsT : List IV → Nat → Nat → AV
  | [], _ => fun _ => .any
  | x :: l, k => upd (argsT l (k + 1)) k (.iv x)
theorem argsT_get : ∀ (l : List IV) (k i : Nat), argsT l k i = if k ≤ i then (match l[i - k]? with | some x => .iv x | none => .any) else .any
  | [], k, i => by simp [argsT]
  | x :: l, k, i => by
    simp only [argsT]
    by_cases e : i = k
    · subst e; rw [upd_same]; simp
    · rw [upd_ne _ _ e, argsT_get l (k + 1) i]
      by_cases h : k ≤ i
      · rw [if_pos (by omega), if_pos h, show i - k = (i - (k + 1)) + 1 from by omega, List.getElem?_cons_succ]
      · rw [if_neg (by omega), if_neg h]

def resAV (P : Program) (s : St) : ResultVar → Option AV
  | .tmp t => some (s.t t)
  | .cell a ty => match s.t a with
    | .mp k off => match s.M[k]? with
      | some (.var _ cs) => (tAgg P ty).bind fun ag => varPart ag cs off
      | _ => none
    | _ => none
def resAVs (P : Program) (s : St) : List ResultVar → Option (List AV)
  | [] => some []
  | r :: l => (resAV P s r).bind fun v => (resAVs P s l).map (v :: ·)
def one? : List IV → IV
  | [y] => y
  | ys => .tup ys
def retV (P : Program) (rs : List ResultVar) (s : St) : Option IV := (resAVs P s rs).bind fun avs => (argsF s.M avs).map fun (ys, _) => one? ys
def postQ (P : Program) (rs : List ResultVar) (r : IV) : Exit → St → Prop
  | .normal, s => retV P rs s = some r
  | .ret, s => retV P rs s = some r
  | _, _ => False

section
variable {P : Program} {X O : Nat → Prop} {w0 : World} {F : AV → Value → Prop} {s : St} {ρ : Nat → Option Nat} {a : Act} {w : World}

theorem run_res (hs : Sim X O w0 F s ρ a w) {r : ResultVar} {v : AV} (h : resAV P s r = some v) :
    ∃ u, (match r with | .tmp t => pure (a.tmps.getD t undef) | .cell p t => do loadVar t (← asAddr (a.tmps.getD p undef)) : Sem Value).run P w = .ok u w ∧ RepA s.M ρ (excl X s.M ρ) w v u := by
  cases r with
  | tmp t => cases h; exact ⟨_, rfl, hs.tm t⟩
  | cell p ty =>
    simp only [resAV] at h
    split at h
    · rename_i k off hp
      split at h
      · rename_i T cs hM
        obtain ⟨ag, hag, h⟩ := option_bind_some h
        have ha := hs.tm p
        rw [hp] at ha
        obtain ⟨T', cs', b, h1, hb, hv⟩ := inv_mp ha
        obtain ⟨b', arr, fz, h2, _, _, _, h6⟩ := var_cell hs.mem hM
        rw [hb] at h2; cases h2
        obtain ⟨u, hu, hr⟩ := varPart_load (P := P) hag h h6
        exact ⟨u, by simp [hv, asAddr, hu], hr⟩
      · cases h
    · cases h

theorem run_ress (hs : Sim X O w0 F s ρ a w) : ∀ {l : List ResultVar} {vs : List AV}, resAVs P s l = some vs →
    ∃ us, (l.mapM (fun r => match r with | .tmp t => pure (a.tmps.getD t undef) | .cell p t => do loadVar t (← asAddr (a.tmps.getD p undef)) : ResultVar → Sem Value)).run P w = .ok us w ∧ us.length = vs.length ∧
      ∀ (i : Nat) (x : AV) (v : Value), vs[i]? = some x → us[i]? = some v → RepA s.M ρ (excl X s.M ρ) w x v
  | [], vs, h => by simp [resAVs] at h; subst h; exact ⟨[], by simp, rfl, by simp⟩
  | r :: l, vs, h => by
    simp only [resAVs] at h
    obtain ⟨v, h1, h⟩ := option_bind_some h
    obtain ⟨vs', h2, h⟩ := option_map_some h
    subst h
    obtain ⟨u, hu, hr⟩ := run_res hs h1
    obtain ⟨us, hus, hl, hrs⟩ := run_ress hs h2
    refine ⟨u :: us, ?_, by simp [hl], fun i x v' hx hv => ?_⟩
    · simp only [List.mapM_cons, Sem.run_bind, hu, Result.andThen_ok, hus, Sem.run_pure]
    · cases i with
      | zero => simp at hx hv; subst hx hv; exact hr
      | succ i => exact hrs i x v' (by simpa using hx) (by simpa using hv)

theorem retV_sound (hs : Sim X O w0 F s ρ a w) {fn : Func} {r : IV} (h : retV P fn.results.toList s = some r) : ∃ v, (results fn a.tmps).run P w = .ok v w ∧ RepI X w r v := by
  unfold retV at h
  obtain ⟨avs, h1, h⟩ := option_bind_some h
  obtain ⟨⟨ys, M'⟩, h2, h⟩ := option_map_some h
  simp only at h
  obtain ⟨us, hus, hl, hrs⟩ := run_ress hs h1
  obtain ⟨hf, hl2, hy⟩ := argsF_sound avs hs.mem us hl hrs h2
  have hX : ∀ (i : Nat) (y : IV) (v : Value), ys[i]? = some y → us[i]? = some v → RepI X w y v := fun i y v h3 h4 =>
    (hy i y v h3 h4).mono ⟨Nat.le_refl _, fun b _ hb => ⟨rfl, fun hx => hb (.inl hx)⟩⟩
  have hrun : (fn.results.mapM (fun r => match r with | .tmp t => pure (a.tmps.getD t undef) | .cell p t => do loadVar t (← asAddr (a.tmps.getD p undef)) : ResultVar → Sem Value)).run P w = .ok us.toArray w := by
    rw [Array.mapM_eq_mapM_toList, Sem.run_map, hus]; rfl
  refine ⟨if h : us.toArray.size = 1 then us.toArray[0] else .tuple us.toArray, ?_, ?_⟩
  · unfold results
    rw [Sem.run_bind]
    refine (congrArg (fun r => Result.andThen r _) (Eq.trans (congrArg (fun (f : ResultVar → Sem Value) => Sem.run P (Array.mapM f fn.results) w) (funext fun r => ?_)) hrun)).trans rfl
    cases r <;> rfl
  · subst h
    match ys, us, hl, hl2, hX with
    | [], us, hl, hl2, hX =>
      have : us = [] := List.eq_nil_of_length_eq_zero (by simp at hl2; omega)
      subst this
      exact .tup [] #[] rfl (by simp)
    | [y], us, hl, hl2, hX =>
      obtain ⟨u, rfl⟩ : ∃ u, us = [u] := by
        cases us with
        | nil => simp at hl hl2; omega
        | cons u l => cases l with
          | nil => exact ⟨u, rfl⟩
          | cons => simp at hl hl2; omega
      exact hX 0 y u rfl rfl
    | y :: y' :: l, us, hl, hl2, hX =>
      have hne : ¬ us.toArray.size = 1 := by simp at hl2 ⊢; omega
      rw [dif_neg hne]
      exact .tup _ _ (by simp at hl2 ⊢; omega) (fun i x v h3 h4 => hX i x v h3 (by simpa using h4))

end

theorem PCalls.of_aw {P : Program} {f : Nat} {fn : Func} {c : Code} {args : List IV} {r : IV} (hf : P.funcs[f]? = some fn) (hb : fn.body = some c) (hc : Callable P f) (hn : bnd true fn.ntmps c = true) (hl : args.length ≤ fn.ntmps)
    (h : aw P c (postQ P fn.results.toList r) ⟨fn.ntmps, argsT args 0, [], 0⟩) : PCalls P f args r := by
  refine ⟨hc, fun w E vs hvl hargs hE => ?_⟩
  have hmem : MemOk E (fun _ => False) w [] (fun _ => none) w := {
    obj := by intro k o hk; simp at hk
    inj := by intro k k' b hk; simp at hk
    own := by intro k b hk; simp at hk
    keep := Keep.refl _ _
    ext := hE }
  have hsim : Sim E (fun _ => False) w (fun _ _ => False) ⟨fn.ntmps, argsT args 0, [], 0⟩ (fun _ => none) { tmps := vs.toArray ++ Array.replicate (fn.ntmps - vs.toArray.size) undef, defers := [] } w := {
    size := by simp; omega
    defers := Dfr.nil _ _ _ _
    tm := by
      intro i
      show RepA [] (fun _ => none) (excl E [] fun _ => none) w (argsT args 0 i) _
      rw [argsT_get, if_pos (Nat.zero_le _), Nat.sub_zero]
      cases hx : args[i]? with
      | none => exact .any _
      | some x =>
        have hi := lt_of_get hx
        have hv : vs[i]? = some (vs[i]'(by omega)) := List.getElem?_eq_getElem (by omega)
        have h1 := hargs i x _ hx hv
        have h2 : (vs.toArray ++ Array.replicate (fn.ntmps - vs.toArray.size) undef).getD i undef = vs[i]'(by omega) := by
          rw [Array.getD_eq_getD_getElem?, Array.getElem?_append_left (by simp; omega)]
          simp [hv]
        rw [h2]
        exact .iv _ _ (h1.mono ⟨Nat.le_refl _, fun b _ hb => ⟨rfl, by
          rintro (hX | ⟨k, o, hk, _⟩)
          · exact hb hX
          · simp at hk⟩⟩)
    mem := hmem
    fr := fun _ _ h => h.elim }
  refine calls_of_marks hf hb (wpIn_mono (h none hn E _ w _ _ _ w hsim) ?_)
  rintro e a' w' ⟨s', ρ', hn', hs', hq⟩
  have fin : ∀ (a' : Act) (w' : World), Sim E (fun _ => False) w (fun _ _ => False) s' ρ' a' w' → retV P fn.results.toList s' = some r → ∃ v, (results fn a'.tmps).run P w' = .ok v w' ∧ ∃ u, Ending.returned v = .returned u ∧ RepI E w' r u ∧ Below w.heap.size w w' := by
    intro a' w' hs' hr
    obtain ⟨v, h1, h2⟩ := retV_sound hs' hr
    exact ⟨v, h1, v, rfl, h2, hs'.mem.keep.below⟩
  cases e with
  | normal => exact hs'.leaves (fun w1 hs1 => fin { a' with defers := [] } w1 hs1 hq)
  | ret => exact hs'.leaves (fun w1 hs1 => fin { a' with defers := [] } w1 hs1 hq)
  | exit i => exact hq.elim
  | goto i => exact hq.elim
  | panic c => exact hq.elim
  | outgrown => exact hq.elim

end Go.Proofs.YtpjncojljamacaaGreat.AM
set_option linter.unusedVariables false
set_option linter.unusedSimpArgs false
namespace Go.Proofs.YtpjncojljamacaaGreat.AM
open Go Go.RowKit

section
variable {P : Program} {ops rest : List Oper} {s : St} {o : Oper} {K : St → List Oper → Prop}
variable {d : Option Tmp} {ty : TypeId} {pos : String} {af : Array Edge} {g : Option (Nat × Bool)} {ev : Operand → AV} {M : List MO}

def runT (P : Program) (ops : List Oper) (l : List Oper) (K : St → List Oper → Prop) (_ : Tok (ops, l, K)) (s : St) : Prop := run P ops l K s
def wantT (o : Option Bool) (f : Bool → Prop) (_ : Tok f) : Prop := wantK o f
def effT (o : Option (Cls × AV × List MO)) (F : AV → List MO → Prop) (_ : Tok F) : Prop := effK o F
@[go_sem ↓] theorem aw_T (c : Code) (Q : Exit → St → Prop) : aw P c Q s = awT P c Q ⟨()⟩ s := Eq.trans rfl rfl
@[go_sem ↓] theorem run_T (l : List Oper) : run P ops l K s = runT P ops l K ⟨()⟩ s := Eq.trans rfl rfl
@[go_sem ↓] theorem wantK_T (o : Option Bool) (f : Bool → Prop) : wantK o f = wantT o f ⟨()⟩ := Eq.trans rfl rfl
@[go_sem ↓] theorem effK_T (o : Option (Cls × AV × List MO)) (F : AV → List MO → Prop) : effK o F = effT o F ⟨()⟩ := Eq.trans rfl rfl
variable {tr : Tok (ops, rest, K)} 
@[go_sem] theorem run_nil (t : Tok (ops, ([] : List Oper), K)) : runT P ops [] K t s = K s [] := Eq.trans rfl rfl
@[go_sem] theorem run_cons (t : Tok (ops, o :: rest, K)) : runT P ops (o :: rest) K t s = wantK (s.want ops o) fun b => if b = true then (if isFCall o = true then K s (o :: rest) else effK (eff P o s.ev s.M) fun v M' => run P ops rest K ({ s with M := M' }.put o.dst v)) else run P ops rest K (s.put o.dst (.iv (.tup []))) := Eq.trans rfl rfl
@[go_sem] theorem wantK_true (f : Bool → Prop) (t : Tok f) : wantT (some true) f t = f true := by simp [wantT, wantK]
@[go_sem] theorem wantK_false (f : Bool → Prop) (t : Tok f) : wantT (some false) f t = f false := by simp [wantT, wantK]
@[go_sem] theorem effK_some (c : Cls) (v : AV) (M' : List MO) (F : AV → List MO → Prop) (t : Tok F) : effT (some (c, v, M')) F t = F v M' := Eq.trans rfl rfl
@[go_sem] theorem effK_none (F : AV → List MO → Prop) (t : Tok F) : effT none F t = False := Eq.trans rfl rfl
@[go_sem] theorem effK_ite (c : Prop) [Decidable c] (x : Option (Cls × AV × List MO)) (F : AV → List MO → Prop) (t : Tok F) : effT (if c then x else none) F t = (c ∧ effK x F) := by
  by_cases h : c <;> simp [h, effK, effT]
@[go_sem] theorem effK_ite' (c : Prop) [Decidable c] (x : Option (Cls × AV × List MO)) (F : AV → List MO → Prop) (t : Tok F) : effT (if c then none else x) F t = (¬ c ∧ effK x F) := by
  by_cases h : c <;> simp [h, effK, effT]
@[go_sem] theorem effK_bind_ite {α : Type} (c : Prop) [Decidable c] (x : Option α) (f : α → Option (Cls × AV × List MO)) (F : AV → List MO → Prop) (t : Tok F) : effT ((if c then x else none).bind f) F t = (c ∧ effK (x.bind f) F) := by
  by_cases h : c <;> simp [h, effK, effT]
@[go_sem] theorem effK_map_ite {α : Type} (c : Prop) [Decidable c] (x : Option α) (f : α → Cls × AV × List MO) (F : AV → List MO → Prop) (t : Tok F) : effT ((if c then x else none).map f) F t = (c ∧ effK (x.map f) F) := by
  by_cases h : c <;> simp [h, effK, effT]
@[go_sem] theorem effK_bind_ite' {α : Type} (c : Prop) [Decidable c] (x : Option α) (f : α → Option (Cls × AV × List MO)) (F : AV → List MO → Prop) (t : Tok F) : effT ((if c then none else x).bind f) F t = (¬ c ∧ effK (x.bind f) F) := by
  by_cases h : c <;> simp [h, effK, effT]
@[go_sem] theorem effK_map_ite' {α : Type} (c : Prop) [Decidable c] (x : Option α) (f : α → Cls × AV × List MO) (F : AV → List MO → Prop) (t : Tok F) : effT ((if c then none else x).map f) F t = (¬ c ∧ effK (x.map f) F) := by
  by_cases h : c <;> simp [h, effK, effT]
@[go_sem ↓] theorem left_nil (Q : St → Prop) : left P ops Q s [] = Q s := Eq.trans rfl rfl

/-! operations -/
@[go_sem] theorem eff_move_ (x : Operand) : eff P ⟨d, .move x, ty, pos, af, g⟩ ev M = some (.p, ev x, M) := rfl
@[go_sem] theorem eff_assign_tmp_ (x : Tmp) : eff P ⟨d, .assign (.tmp x), ty, pos, af, g⟩ ev M = some (.p, ev (.tmp x), M) := rfl
@[go_sem] theorem eff_assign_int_ (k : IntKind) (n : Int) : eff P ⟨d, .assign (.const (.int k n)), ty, pos, af, g⟩ ev M = some (.p, ev (.const (.int k n)), M) := rfl
@[go_sem] theorem eff_assign_bool_ (b : Bool) : eff P ⟨d, .assign (.const (.bool b)), ty, pos, af, g⟩ ev M = some (.p, ev (.const (.bool b)), M) := rfl
@[go_sem] theorem eff_assign_str_ (b : ByteArray) : eff P ⟨d, .assign (.const (.string b)), ty, pos, af, g⟩ ev M = some (.p, ev (.const (.string b)), M) := rfl
@[go_sem] theorem eff_assign_ptr_ (b : Option Addr) : eff P ⟨d, .assign (.const (.pointer b)), ty, pos, af, g⟩ ev M = some (.p, ev (.const (.pointer b)), M) := rfl
@[go_sem] theorem eff_assign_agg_ (b : Array Value) : eff P ⟨d, .assign (.const (.agg b)), ty, pos, af, g⟩ ev M = some (.p, ev (.const (.agg b)), M) := rfl
@[go_sem] theorem eff_assign_nilf_ : eff P ⟨d, .assign (.const .nilFunc), ty, pos, af, g⟩ ev M = some (.p, ev (.const .nilFunc), M) := rfl
@[go_sem] theorem eff_assign_func_ (f : FuncId) : eff P ⟨d, .assign (.func f), ty, pos, af, g⟩ ev M = some (.p, ev (.func f), M) := rfl
@[go_sem] theorem eff_assign_nil_ : eff P ⟨d, .assign (.const (.slice none 0 0)), ty, pos, af, g⟩ ev M = (tElem P ty).map fun e => (.w, .msl M.length 0 0 0, M ++ [.row true e.T e.sz []]) := rfl
def pickV (c a b : AV) (M : List MO) : Option (Cls × AV × List MO) := match c with
  | .iv (.bool t) => some (.p, if t then a else b, M)
  | _ => none
@[go_sem] theorem eff_pick_ (c a b : Operand) : eff P ⟨d, .pick c a b, ty, pos, af, g⟩ ev M = pickV (ev c) (ev a) (ev b) M := rfl
@[go_sem] theorem pickV_true (a b : AV) : pickV (.iv (.bool true)) a b M = some (.p, a, M) := rfl
@[go_sem] theorem pickV_false (a b : AV) : pickV (.iv (.bool false)) a b M = some (.p, b, M) := rfl
@[go_sem] theorem eff_alloc_ (T : TypeId) : eff P ⟨d, .alloc T, ty, pos, af, g⟩ ev M = (tZero P T).bind fun z => (zcells z).map fun cs => (.w, .mp M.length 0, M ++ [.var T cs]) := rfl
@[go_sem] theorem zcells_f : zcells .nilFunc = some [.any] := rfl
@[go_sem] theorem zcells_i (k : IntKind) (n : Int) : zcells (.int k n) = (constAV (.int k n)).cells := rfl
@[go_sem] theorem zcells_b (b : Bool) : zcells (.bool b) = (constAV (.bool b)).cells := rfl
@[go_sem] theorem zcells_s (b : ByteArray) : zcells (.string b) = (constAV (.string b)).cells := rfl
@[go_sem] theorem zcells_p : zcells (.pointer none) = (constAV (.pointer none)).cells := rfl
@[go_sem] theorem zcells_l : zcells (.slice none 0 0) = (constAV (.slice none 0 0)).cells := rfl
@[go_sem] theorem zcells_m : zcells (.map none) = (constAV (.map none)).cells := rfl
@[go_sem] theorem zcells_a (l : Array Value) : zcells (.agg l) = (constAV (.agg l)).cells := rfl
@[go_sem] theorem eff_makeMap_ (t : TypeId) : eff P ⟨d, .makeMap t none, ty, pos, af, g⟩ ev M = (tMapK P t).map fun _ => (.w, .mr M.length, M ++ [.obj (.map true [] [])]) := rfl
@[go_sem] theorem eff_lookup_ (t : TypeId) (x i : Operand) (ok : Bool) : eff P ⟨d, .lookup t x i ok, ty, pos, af, g⟩ ev M = (tMapK P t).bind fun q => (keyIV q.1 (ev i)).bind fun key => (mapOf M (ev x)).bind fun m => (findK key m.1 0).bind fun r => (lookAV P q.2 m.2 r).map fun vb => (.r, okAV ok vb.1 vb.2, M) := rfl
def updMM (P : Program) (t : TypeId) (m k x : AV) (M : List MO) : Option (Cls × AV × List MO) := (tMapK P t).bind fun q => (keyIV q.1 k).bind fun key =>
    match m with
    | .mr j => match M[j]? with
      | some (.obj (.map true ks vs)) => (findK key ks 0).map fun r => (.w, .any, M.set j (.obj (updM key x ks vs r)))
      | _ => none
    | _ => none
@[go_sem] theorem eff_mapUpdate_ (t : TypeId) (m k x : Operand) : eff P ⟨d, .mapUpdate t m k x, ty, pos, af, g⟩ ev M = updMM P t (ev m) (ev k) (ev x) M := rfl
def rangeV (P : Program) (t : TypeId) (x : AV) (M : List MO) : Option (Cls × AV × List MO) := match tKind P t, x with
    | some .str, .iv (.str s) => some (.w, .it M.length, M ++ [.obj (.siter s 0)])
    | some .map, x => (mapOf M x).map fun q => (.w, .it M.length, M ++ [.obj (.miter x q.1.length [])])
    | _, _ => none
@[go_sem] theorem eff_range_ (t : TypeId) (x : Operand) : eff P ⟨d, .range t x, ty, pos, af, g⟩ ev M = rangeV P t (ev x) M := rfl
@[go_sem] theorem eff_next_ (x : Operand) : eff P ⟨d, .next x true, ty, pos, af, g⟩ ev M = nextV (ev x) M := rfl
def entryV (x : AV) (M : List MO) : Option (Cls × AV × List MO) := match x with
    | .it k => match M[k]? with
      | some (.obj (.miter y n sn)) => (mapOf M y).bind fun q => if q.1.length = n then (sn.getLast?).bind fun i => (q.1[i]?).bind fun key => (q.2[i]?).map fun v => (.r, .tup [.iv key, v], M) else none
      | _ => none
    | _ => none
@[go_sem] theorem eff_entry_ (x : Operand) : eff P ⟨d, .entry x, ty, pos, af, g⟩ ev M = entryV (ev x) M := rfl
attribute [go_sem] keyIV mapOf findK keyEq lookAV zeroIV okAV updM updMM rangeV nextV entryV nextC
@[go_sem] theorem eff_box_ (T : TypeId) (x : Operand) : eff P ⟨d, .box T x, ty, pos, af, g⟩ ev M = (ev x).cells.map fun cs => (.w, .mp M.length 0, M ++ [.var T cs]) := rfl
@[go_sem] theorem eff_build_ (t : TypeId) (parts : List (Nat × Operand)) : eff P ⟨d, .build t parts.toArray, ty, pos, af, g⟩ ev M = (tZero P t).bind fun z => (constAV z).cells.bind fun cs =>
      (tPlaces P t).bind fun pl => (fillAV (fun i => pl[i]?) cs (parts.map fun (i, x) => (i, ev x))).map fun cs => (.p, mkAgg cs, M) := rfl
@[go_sem] theorem eff_buildSlice_ (t : TypeId) (len : Nat) (parts : List (Nat × Operand)) : eff P ⟨d, .buildSlice t len parts.toArray, ty, pos, af, g⟩ ev M = (tElem P t).bind fun e => (constIV e.zero).bind fun z =>
      if len * e.sz ≤ 16777216 ∧ z.fits e.sz = true then
        (partsF M (parts.map fun (i, x) => (i, ev x))).bind fun (ps, M') =>
          if ps.all (fun p => p.2.fits e.sz) then (fillRow (List.replicate len z) ps).map fun xs => (.w, .msl M'.length 0 len len, M' ++ [.row true e.T e.sz xs]) else none
      else none := rfl
def loadV (P : Program) (ag : Option Nat) (a : AV) (M : List MO) : Option (Cls × AV × List MO) := match a with
  | .mp k off => match M[k]? with
    | some (.var _ cs) => (varPart ag cs off).map fun v => (.r, v, M)
    | _ => none
  | .rp k n i c => (rowAt M k n).bind fun (_, _, _, xs) => (xs[i]?).bind fun x => (elemPart ag x c).map fun v => (.r, .iv v, M)
  | .ip _ xs i c => (xs[i]?).bind fun x => (elemPart ag x c).map fun v => (.p, .iv v, M)
  | _ => none
@[go_sem] theorem eff_load_ (t : TypeId) (a : Operand) : eff P ⟨d, .load t a, ty, pos, af, g⟩ ev M = (tAgg P t).bind fun ag => loadV P ag (ev a) M := rfl
@[go_sem] theorem loadV_mp (ag : Option Nat) (k off : Nat) : loadV P ag (.mp k off) M = match M[k]? with
    | some (.var _ cs) => (varPart ag cs off).map fun v => (.r, v, M)
    | _ => none := rfl
@[go_sem] theorem loadV_rp (ag : Option Nat) (k n i c : Nat) : loadV P ag (.rp k n i c) M = (rowAt M k n).bind fun (_, _, _, xs) => (xs[i]?).bind fun x => (elemPart ag x c).map fun v => (.r, .iv v, M) := rfl
@[go_sem] theorem loadV_ip (ag : Option Nat) (sz : Nat) (xs : List IV) (i c : Nat) : loadV P ag (.ip sz xs i c) M = (xs[i]?).bind fun x => (elemPart ag x c).map fun v => (.p, .iv v, M) := rfl
def storeV (n : Nat) (a x : AV) (M : List MO) : Option (Cls × AV × List MO) := match a with
  | .mp k off => match M[k]? with
    | some (.var T cs) => x.cells.bind fun ys => if ys.length = n ∧ off + n ≤ cs.length ∧ ys.all AV.one = true then some (.w, .any, M.set k (.var T (setCells cs off ys))) else none
    | _ => none
  | .rp k m i c => (toIVF M x).bind fun (y, M') =>
    match M'[k]? with
    | some (.row true T sz xs) => if m = xs.length ∧ y.cells.length = n then
        (xs[i]?).bind fun old => (putElem sz old c y).map fun z => (.w, .any, M'.set k (.row true T sz (xs.set i z))) else none
    | _ => none
  | _ => none
@[go_sem] theorem eff_store_ (t : TypeId) (a x : Operand) : eff P ⟨d, .store t a x, ty, pos, af, g⟩ ev M = (tSize P t).bind fun n => storeV n (ev a) (ev x) M := rfl
@[go_sem] theorem storeV_mp (n k off : Nat) (x : AV) : storeV n (.mp k off) x M = match M[k]? with
    | some (.var T cs) => x.cells.bind fun ys => if ys.length = n ∧ off + n ≤ cs.length ∧ ys.all AV.one = true then some (.w, .any, M.set k (.var T (setCells cs off ys))) else none
    | _ => none := rfl
@[go_sem] theorem storeV_rp (n k m i c : Nat) (x : AV) : storeV n (.rp k m i c) x M = (toIVF M x).bind fun (y, M') =>
    match M'[k]? with
    | some (.row true T sz xs) => if m = xs.length ∧ y.cells.length = n then
        (xs[i]?).bind fun old => (putElem sz old c y).map fun z => (.w, .any, M'.set k (.row true T sz (xs.set i z))) else none
    | _ => none := rfl
def nilV (x : AV) (M : List MO) : Option (Cls × AV × List MO) := match x with
  | .mp k off => some (.p, .mp k off, M)
  | .ip sz xs i c => some (.p, .ip sz xs i c, M)
  | .rp k n i c => (rowAt M k n).map fun _ => (.r, .rp k n i c, M)
  | .fn f cs => some (.p, .fn f cs, M)
  | .iv (.fnc f) => some (.p, .iv (.fnc f), M)
  | _ => none
@[go_sem] theorem eff_nilCheck_ (x : Operand) : eff P ⟨d, .nilCheck x, ty, pos, af, g⟩ ev M = nilV (ev x) M := rfl
@[go_sem] theorem nilV_mp (k off : Nat) : nilV (.mp k off) M = some (.p, .mp k off, M) := rfl
@[go_sem] theorem nilV_ip (sz : Nat) (xs : List IV) (i c : Nat) : nilV (.ip sz xs i c) M = some (.p, .ip sz xs i c, M) := rfl
@[go_sem] theorem nilV_rp (k n i c : Nat) : nilV (.rp k n i c) M = (rowAt M k n).map fun _ => (.r, .rp k n i c, M) := rfl
@[go_sem] theorem nilV_fn (f : Nat) (cs : List AV) : nilV (.fn f cs) M = some (.p, .fn f cs, M) := rfl
@[go_sem] theorem nilV_fnc (f : Nat) : nilV (.iv (.fnc f)) M = some (.p, .iv (.fnc f), M) := rfl
@[go_sem] theorem eff_binOp_ (op : BinOp) (t yt : TypeId) (x : Operand) (n : Tmp) : eff P ⟨d, .binOp op t x (.tmp n) yt, ty, pos, af, g⟩ ev M = (binAV P op t (ev x) (ev (.tmp n))).map fun v => (.p, .iv v, M) := rfl
@[go_sem] theorem eff_binOp_int (op : BinOp) (t yt : TypeId) (x : Operand) (k : IntKind) (n : Int) : eff P ⟨d, .binOp op t x (.const (.int k n)) yt, ty, pos, af, g⟩ ev M = (binAV P op t (ev x) (ev (.const (.int k n)))).map fun v => (.p, .iv v, M) := rfl
@[go_sem] theorem eff_binOp_str (op : BinOp) (t yt : TypeId) (x : Operand) (n : ByteArray) : eff P ⟨d, .binOp op t x (.const (.string n)) yt, ty, pos, af, g⟩ ev M = (binAV P op t (ev x) (ev (.const (.string n)))).map fun v => (.p, .iv v, M) := rfl
@[go_sem] theorem eff_binOp_bool (op : BinOp) (t yt : TypeId) (x : Operand) (n : Bool) : eff P ⟨d, .binOp op t x (.const (.bool n)) yt, ty, pos, af, g⟩ ev M = (binAV P op t (ev x) (ev (.const (.bool n)))).map fun v => (.p, .iv v, M) := rfl
@[go_sem] theorem eff_binOp_ptr (op : BinOp) (t yt : TypeId) (x : Operand) (n : Option Addr) : eff P ⟨d, .binOp op t x (.const (.pointer n)) yt, ty, pos, af, g⟩ ev M = (binAV P op t (ev x) (ev (.const (.pointer n)))).map fun v => (.p, .iv v, M) := rfl
def nilB (P : Program) (op : BinOp) (t : TypeId) (u : AV) (z : Option IV) (M : List MO) : Option (Cls × AV × List MO) := match nilCmp P op t (.const (.slice none 0 0)) u with
    | some b => some (.p, .iv (.bool b), M)
    | none => z.map fun v => (.p, .iv v, M)
@[go_sem] theorem eff_binOp_nil (op : BinOp) (t yt : TypeId) (x : Operand) : eff P ⟨d, .binOp op t x (.const (.slice none 0 0)) yt, ty, pos, af, g⟩ ev M = nilB P op t (ev x) (binAV P op t (ev x) (ev (.const (.slice none 0 0)))) M := rfl
def nilC : Option Kd → Bool → Option IV → List MO → Option (Cls × AV × List MO)
  | some .slc, b, _, M => some (.p, .iv (.bool b), M)
  | _, _, z, M => z.map fun v => (.p, .iv v, M)
@[go_sem] theorem nilC_slc (b : Bool) (z : Option IV) : nilC (some .slc) b z M = some (.p, .iv (.bool b), M) := rfl
@[go_sem] theorem nilB_eql (t : TypeId) (sz : Nat) (xs : List IV) (z : Option IV) (h : 0 < xs.length) : nilB P .eql t (.iv (.sl sz xs)) z M = nilC (tKind P t) false z M := by
  unfold nilB nilCmp nilC
  generalize tKind P t = kd
  cases kd with
  | none => rfl
  | some q => cases q <;> simp [h]
@[go_sem] theorem nilB_neq (t : TypeId) (sz : Nat) (xs : List IV) (z : Option IV) (h : 0 < xs.length) : nilB P .neq t (.iv (.sl sz xs)) z M = nilC (tKind P t) true z M := by
  unfold nilB nilCmp nilC
  generalize tKind P t = kd
  cases kd with
  | none => rfl
  | some q => cases q <;> simp [h]
@[go_sem] theorem eff_unOp_ (op : UnOp) (t : TypeId) (x : Operand) : eff P ⟨d, .unOp op t x, ty, pos, af, g⟩ ev M = (unAV op (ev x)).map fun v => (.p, .iv v, M) := rfl
def convV (P : Program) (src dst : TypeId) (x : AV) (M : List MO) : Option (Cls × AV × List MO) := match convAV P src dst x M with
    | some r => some r
    | none => strOf P src dst x M
@[go_sem] theorem eff_convert_ (src dst : TypeId) (x : Operand) : eff P ⟨d, .convert src dst x, ty, pos, af, g⟩ ev M = convV P src dst (ev x) M := rfl
def convKI (kd src : Option Kd) (n : Int) (M : List MO) : Option (Cls × AV × List MO) := match kd, src with
  | some (.int k), some _ => some (.p, .iv (.int k (k.wrap n)), M)
  | _, _ => none
@[go_sem] theorem convV_int (src dst : TypeId) (k' : IntKind) (n : Int) : convV P src dst (.iv (.int k' n)) M = convKI (tKind P dst) (tKind P src) n M := by
  unfold convV convAV convKI strOf
  cases h1 : tKind P dst with
  | none => simp
  | some kd =>
    cases kd <;> cases h2 : tKind P src <;> simp
    all_goals (cases h3 : tElem P src <;> simp [elems])
@[go_sem] theorem convKI_int (k : IntKind) (kd : Kd) (n : Int) : convKI (some (.int k)) (some kd) n M = some (.p, .iv (.int k (k.wrap n)), M) := rfl
def convB (kd : Option Kd) (e : Option Elem) (u8 : Bool) (ys : Option (List IV)) (M : List MO) : Option (Cls × AV × List MO) := match kd, e with
  | some .str, some _ => if u8 = true then ys.bind fun ys => (bytesOf? ys).map fun l => (.r, .iv (.str ⟨l.toArray⟩), M) else none
  | _, _ => none
@[go_sem] theorem convV_msl (src dst : TypeId) (k off len n : Nat) : convV P src dst (.msl k off len n) M = convB (tKind P dst) (tElem P src) (match tElem P src with | some e => isU8 P e.T | none => false) (elems M 1 (.msl k off len n)) M := by
  unfold convV convAV strOf convB
  cases h1 : tKind P dst with
  | none => simp
  | some kd => cases kd <;> cases h2 : tElem P src <;> simp [AV.isStr]
@[go_sem] theorem convB_str (e : Elem) (ys : Option (List IV)) : convB (some .str) (some e) true ys M = ys.bind fun ys => (bytesOf? ys).map fun l => (.r, .iv (.str ⟨l.toArray⟩), M) := rfl
@[go_sem] theorem eff_makeFunc_ (f : Nat) (caps : List Operand) : eff P ⟨d, .makeFunc (.func f) #[] caps.toArray, ty, pos, af, g⟩ ev M = some (.p, if caps.isEmpty then .iv (.fnc f) else .fn f (caps.map ev), M) := by
  cases caps <;> rfl
def makeV (P : Program) (t : TypeId) (l c : AV) (M : List MO) : Option (Cls × AV × List MO) := match l, c with
  | .iv (.int _ n), .iv (.int _ m) => (tElem P t).bind fun e => (constIV e.zero).bind fun z =>
    if 0 ≤ n ∧ n = m ∧ n * e.bytes ≤ 140737488355328 ∧ z.fits e.sz = true then some (.w, .msl M.length 0 n.toNat n.toNat, M ++ [.row true e.T e.sz (List.replicate n.toNat z)]) else none
  | _, _ => none
@[go_sem] theorem eff_makeSlice_ (t : TypeId) (l c : Operand) : eff P ⟨d, .makeSlice t l c, ty, pos, af, g⟩ ev M = makeV P t (ev l) (ev c) M := rfl
@[go_sem] theorem makeV_int (t : TypeId) (k k' : IntKind) (n m : Int) : makeV P t (.iv (.int k n)) (.iv (.int k' m)) M = (tElem P t).bind fun e => (constIV e.zero).bind fun z =>
    if 0 ≤ n ∧ n = m ∧ n * e.bytes ≤ 140737488355328 ∧ z.fits e.sz = true then some (.w, .msl M.length 0 n.toNat n.toNat, M ++ [.row true e.T e.sz (List.replicate n.toNat z)]) else none := rfl
@[go_sem] theorem eff_slice_ (t : TypeId) (x : Operand) (lo hi : Option Operand) : eff P ⟨d, .slice t x lo hi none, ty, pos, af, g⟩ ev M = (sliceAV P t M (ev x) (lo.map ev) (hi.map ev) none).map fun v => (.r, v, M) := by
  simp [eff]
@[go_sem] theorem eff_slice3_ (t : TypeId) (x : Operand) (lo : Option Operand) (hi mx : Operand) : eff P ⟨d, .slice t x lo (some hi) (some mx), ty, pos, af, g⟩ ev M = (sliceAV P t M (ev x) (lo.map ev) (some (ev hi)) (some (ev mx))).map fun v => (.r, v, M) := by
  simp [eff]
def fieldAddrV (off : Nat) (x : AV) (M : List MO) : Option (Cls × AV × List MO) := match x with
  | .mp k o => some (.p, .mp k (o + off), M)
  | .ip sz xs i c => some (.p, .ip sz xs i (c + off), M)
  | .rp k n i c => (rowAt M k n).map fun _ => (.r, .rp k n i (c + off), M)
  | _ => none
@[go_sem] theorem eff_fieldAddr_ (t : TypeId) (x : Operand) (f : Nat) : eff P ⟨d, .fieldAddr t x f, ty, pos, af, g⟩ ev M = (tField P t f).bind fun q => fieldAddrV q.1 (ev x) M := rfl
@[go_sem] theorem fieldAddrV_mp (off k o : Nat) : fieldAddrV off (.mp k o) M = some (.p, .mp k (o + off), M) := rfl
@[go_sem] theorem fieldAddrV_ip (off sz : Nat) (xs : List IV) (i c : Nat) : fieldAddrV off (.ip sz xs i c) M = some (.p, .ip sz xs i (c + off), M) := rfl
@[go_sem] theorem fieldAddrV_rp (off k n i c : Nat) : fieldAddrV off (.rp k n i c) M = (rowAt M k n).map fun _ => (.r, .rp k n i (c + off), M) := rfl
def fieldV (ag : Option Nat) (off : Nat) (x : AV) (M : List MO) : Option (Cls × AV × List MO) := match x with
  | .iv (.agg cs) => (elemPart ag (.agg cs) off).map fun v => (.p, .iv v, M)
  | .agg cs => (varPart ag cs off).map fun v => (.p, v, M)
  | _ => none
@[go_sem] theorem eff_field_ (t : TypeId) (x : Operand) (f : Nat) : eff P ⟨d, .field t x f, ty, pos, af, g⟩ ev M = (tField P t f).bind fun q => (tAgg P q.2).bind fun ag => fieldV ag q.1 (ev x) M := rfl
@[go_sem] theorem fieldV_iv (ag : Option Nat) (off : Nat) (cs : List IV) : fieldV ag off (.iv (.agg cs)) M = (elemPart ag (.agg cs) off).map fun v => (.p, .iv v, M) := rfl
@[go_sem] theorem fieldV_agg (ag : Option Nat) (off : Nat) (cs : List AV) : fieldV ag off (.agg cs) M = (varPart ag cs off).map fun v => (.p, v, M) := rfl
def indexAddrV (P : Program) (t : TypeId) (j : Int) (x : AV) (M : List MO) : Option (Cls × AV × List MO) := match x with
  | .iv (.sl sz xs) => (tElem P t).bind fun e => if 0 ≤ j ∧ j < xs.length ∧ sz = e.sz then some (.p, .ip sz xs j.toNat 0, M) else none
  | .msl k off len n => (tElem P t).bind fun e => (rowAt M k n).bind fun (_, _, sz, _) => if 0 ≤ j ∧ j < len ∧ sz = e.sz then some (.r, .rp k n (off + j.toNat) 0, M) else none
  | .mp k off => (tArr P t).bind fun (n, _, sz) => if 0 ≤ j ∧ j < n then some (.p, .mp k (off + j.toNat * sz), M) else none
  | _ => none
@[go_sem] theorem eff_indexAddr_ (t : TypeId) (x i : Operand) : eff P ⟨d, .indexAddr t x i, ty, pos, af, g⟩ ev M = (idx (ev i)).bind fun j => indexAddrV P t j (ev x) M := rfl
@[go_sem] theorem indexAddrV_sl (t : TypeId) (j : Int) (sz : Nat) (xs : List IV) : indexAddrV P t j (.iv (.sl sz xs)) M = (tElem P t).bind fun e => if 0 ≤ j ∧ j < xs.length ∧ sz = e.sz then some (.p, .ip sz xs j.toNat 0, M) else none := rfl
@[go_sem] theorem indexAddrV_msl (t : TypeId) (j : Int) (k off len n : Nat) : indexAddrV P t j (.msl k off len n) M = (tElem P t).bind fun e => (rowAt M k n).bind fun (_, _, sz, _) => if 0 ≤ j ∧ j < len ∧ sz = e.sz then some (.r, .rp k n (off + j.toNat) 0, M) else none := rfl
@[go_sem] theorem indexAddrV_mp (t : TypeId) (j : Int) (k off : Nat) : indexAddrV P t j (.mp k off) M = (tArr P t).bind fun (n, _, sz) => if 0 ≤ j ∧ j < n then some (.p, .mp k (off + j.toNat * sz), M) else none := rfl
def indexV (P : Program) (t : TypeId) (j : Int) (x : AV) (M : List MO) : Option (Cls × AV × List MO) := match x with
  | .iv (.str s) => if tKind P t matches some .str then if 0 ≤ j ∧ j < s.size then some (.p, .iv (.int .u8 (s.data.toList.getD j.toNat 0).toNat), M) else none else none
  | .iv (.agg cs) => (tArr P t).bind fun (n, et, sz) => (tAgg P et).bind fun ag => if 0 ≤ j ∧ j < n then (elemPart ag (.agg cs) (j.toNat * sz)).map fun v => (.p, .iv v, M) else none
  | _ => none
@[go_sem] theorem eff_index_ (t : TypeId) (x i : Operand) : eff P ⟨d, .index t x i, ty, pos, af, g⟩ ev M = (idx (ev i)).bind fun j => indexV P t j (ev x) M := rfl
@[go_sem] theorem indexV_str (t : TypeId) (j : Int) (s : ByteArray) : indexV P t j (.iv (.str s)) M = if tKind P t matches some .str then if 0 ≤ j ∧ j < s.size then some (.p, .iv (.int .u8 (s.data.toList.getD j.toNat 0).toNat), M) else none else none := rfl
@[go_sem] theorem indexV_agg (t : TypeId) (j : Int) (cs : List IV) : indexV P t j (.iv (.agg cs)) M = (tArr P t).bind fun (n, et, sz) => (tAgg P et).bind fun ag => if 0 ≤ j ∧ j < n then (elemPart ag (.agg cs) (j.toNat * sz)).map fun v => (.p, .iv v, M) else none := rfl
def extractV (i : Nat) (x : AV) (M : List MO) : Option (Cls × AV × List MO) := match x with
  | .iv (.tup vs) => (vs[i]?).map fun v => (.p, .iv v, M)
  | .tup vs => (vs[i]?).map fun v => (.p, v, M)
  | _ => none
@[go_sem] theorem eff_extract_ (x : Operand) (i : Nat) : eff P ⟨d, .extract x i, ty, pos, af, g⟩ ev M = extractV i (ev x) M := rfl
@[go_sem] theorem extractV_iv (i : Nat) (vs : List IV) : extractV i (.iv (.tup vs)) M = (vs[i]?).map fun v => (.p, .iv v, M) := rfl
@[go_sem] theorem extractV_tup (i : Nat) (vs : List AV) : extractV i (.tup vs) M = (vs[i]?).map fun v => (.p, v, M) := rfl
@[go_sem] theorem eff_builtin_ (b : Builtin) (args : List Operand) (ts : List TypeId) : eff P ⟨d, .call ⟨.builtin b, args.toArray, ts.toArray⟩, ty, pos, af, g⟩ ev M = builtinAV P b ts (args.map ev) M := rfl
@[go_sem] theorem isFCall_call (x : Operand) (args : Array Operand) (ts : Array TypeId) : isFCall ⟨d, .call ⟨.value x, args, ts⟩, ty, pos, af, g⟩ = true := rfl
@[go_sem] theorem isFCall_next (x : Operand) : isFCall ⟨d, .next x false, ty, pos, af, g⟩ = true := rfl
@[go_sem] theorem isFCall_nextS (x : Operand) : isFCall ⟨d, .next x true, ty, pos, af, g⟩ = false := rfl
@[go_sem] theorem isFCall_builtin (b : Builtin) (args : Array Operand) (ts : Array TypeId) : isFCall ⟨d, .call ⟨.builtin b, args, ts⟩, ty, pos, af, g⟩ = false := rfl

/-! builtins -/
def lenV (P : Program) (kd : Option Kd) (x : AV) (M : List MO) : Option (Cls × AV × List MO) := match kd with
  | some .slc => match x with | .iv (.str _) => none | _ => (lenAV M x).map fun (n : Nat) => (.r, .iv (.int .i64 (n : Int)), M)
  | some .str => match x with | .iv (.str s) => some (.p, .iv (.int .i64 s.size), M) | _ => none
  | some .map => (mapOf M x).map fun q => (.r, .iv (.int .i64 (q.1.length : Int)), M)
  | _ => none
@[go_sem] theorem builtin_len_ (t : TypeId) (ts : List TypeId) (x : AV) : builtinAV P .len (t :: ts) [x] M = lenV P (tKind P t) x M := rfl
@[go_sem] theorem lenV_sl (sz : Nat) (xs : List IV) : lenV P (some .slc) (.iv (.sl sz xs)) M = some (.r, .iv (.int .i64 xs.length), M) := rfl
@[go_sem] theorem lenV_map (x : AV) : lenV P (some .map) x M = (mapOf M x).map fun q => (.r, .iv (.int .i64 (q.1.length : Int)), M) := rfl
@[go_sem] theorem lenV_nilsl : lenV P (some .slc) .nilsl M = some (.r, .iv (.int .i64 (0 : Nat)), M) := rfl
@[go_sem] theorem lenV_msl (k off len n : Nat) : lenV P (some .slc) (.msl k off len n) M = ((rowAt M k n).bind fun _ => if off + len ≤ n then some len else none).map fun (n : Nat) => (.r, .iv (.int .i64 (n : Int)), M) := rfl
@[go_sem] theorem lenV_str (s : ByteArray) : lenV P (some .str) (.iv (.str s)) M = some (.p, .iv (.int .i64 s.size), M) := rfl
def appV (P : Program) (kd : Option Kd) (t : TypeId) (s x : AV) (M : List MO) : Option (Cls × AV × List MO) := match kd with
  | some .slc | some .str => (tElem P t).bind fun e => (appendAV M e s x).map fun (v, M') => (.w, v, M')
  | _ => none
@[go_sem] theorem builtin_append_ (t t2 : TypeId) (ts : List TypeId) (s x : AV) : builtinAV P .append (t :: t2 :: ts) [s, x] M = appV P (tKind P t2) t s x M := rfl
@[go_sem] theorem appV_slc (t : TypeId) (s x : AV) : appV P (some .slc) t s x M = (tElem P t).bind fun e => (appendAV M e s x).map fun (v, M') => (.w, v, M') := rfl
@[go_sem] theorem appV_str (t : TypeId) (s x : AV) : appV P (some .str) t s x M = (tElem P t).bind fun e => (appendAV M e s x).map fun (v, M') => (.w, v, M') := rfl
@[go_sem] theorem builtin_min_ (ts : List TypeId) (k : IntKind) (a : Int) (l : List AV) : builtinAV P .min ts (.iv (.int k a) :: l) M = (minAll k a l).map fun c => (.p, .iv (.int k c), M) := by cases ts <;> rfl
@[go_sem] theorem builtin_max_ (ts : List TypeId) (k : IntKind) (a : Int) (l : List AV) : builtinAV P .max ts (.iv (.int k a) :: l) M = (maxAll k a l).map fun c => (.p, .iv (.int k c), M) := by cases ts <;> rfl
@[go_sem] theorem minAll_nil (k : IntKind) (a : Int) : minAll k a [] = some a := rfl
@[go_sem] theorem minAll_cons (k : IntKind) (a b : Int) (l : List AV) : minAll k a (.iv (.int k b) :: l) = minAll k (min a b) l := by simp [minAll]
@[go_sem] theorem maxAll_nil (k : IntKind) (a : Int) : maxAll k a [] = some a := rfl
@[go_sem] theorem maxAll_cons (k : IntKind) (a b : Int) (l : List AV) : maxAll k a (.iv (.int k b) :: l) = maxAll k (max a b) l := by simp [maxAll]
@[go_sem] theorem builtin_clear_ (t : TypeId) (ts : List TypeId) (k off len n : Nat) : builtinAV P .clear (t :: ts) [.msl k off len n] M = (tElem P t).bind fun e => (constIV e.zero).bind fun z =>
      match M[k]? with
      | some (.row true T sz xs) => if n = xs.length ∧ off + len ≤ n ∧ sz = e.sz ∧ T = e.T ∧ z.fits e.sz = true then
          some (.w, .iv (.tup []), M.set k (.row true T sz (xs.take off ++ List.replicate len z ++ xs.drop (off + len)))) else none
      | _ => none := rfl
@[go_sem] theorem builtin_copy_ (t : TypeId) (ts : List TypeId) (k off len n : Nat) (x : AV) : builtinAV P .copy (t :: ts) [.msl k off len n, x] M = (tElem P t).bind fun e => (elems M e.sz x).bind fun ys =>
      match M[k]? with
      | some (.row true T sz xs) => if n = xs.length ∧ off + len ≤ n ∧ sz = e.sz ∧ T = e.T then
          some (.w, .iv (.int .i64 (min ys.length len : Nat)), M.set k (.row true T sz (xs.take off ++ ys.take (min ys.length len) ++ xs.drop (off + min ys.length len)))) else none
      | _ => none := rfl

/-! appends -/
@[go_sem] theorem append_nilsl (e : Elem) (x : AV) : appendAV M e .nilsl x = (elems M e.sz x).bind fun ys => if ys.length * e.bytes ≤ 140737488355328 then some (.msl M.length 0 ys.length ys.length, M ++ [.row true e.T e.sz ys]) else none := rfl
@[go_sem] theorem append_msl (e : Elem) (k off len n : Nat) (x : AV) : appendAV M e (.msl k off len n) x = (elems M e.sz x).bind fun ys =>
      match M[k]? with
      | some (.row true T sz xs) => if n = xs.length ∧ off = 0 ∧ len = n ∧ sz = e.sz ∧ T = e.T ∧ (n + ys.length) * e.bytes ≤ 140737488355328 then
          some (.msl k 0 (n + ys.length) (n + ys.length), M.set k (.row true T sz (xs ++ ys))) else none
      | _ => none := rfl
@[go_sem] theorem elems_sl (sz sz' : Nat) (xs : List IV) : elems M sz (.iv (.sl sz' xs)) = if sz' = sz ∨ xs = [] then some xs else none := rfl
@[go_sem] theorem elems_nilsl (sz : Nat) : elems M sz .nilsl = some [] := rfl
@[go_sem] theorem elems_msl (sz k off len n : Nat) : elems M sz (.msl k off len n) = (rowAt M k n).bind fun (_, _, sz', xs) => if sz' = sz ∧ off + len ≤ n then some ((xs.drop off).take len) else none := rfl
@[go_sem] theorem elems_str (sz : Nat) (s : ByteArray) : elems M sz (.iv (.str s)) = if sz = 1 then some (s.data.toList.map fun b => .int .u8 b.toNat) else none := rfl

/-! values -/
@[go_sem] theorem ev_tmp (n nb : Nat) (t : Nat → AV) (M : List MO) (x : Tmp) : St.ev ⟨n, t, M, nb⟩ (.tmp x) = t x := rfl
@[go_sem] theorem ev_const (v : Value) : St.ev s (.const v) = constAV v := rfl
@[go_sem] theorem ev_func (f : FuncId) : St.ev s (.func f) = .iv (.fnc f) := rfl
@[go_sem] theorem constAV_int (k : IntKind) (n : Int) : constAV (.int k n) = .iv (.int k n) := rfl
@[go_sem] theorem constAV_bool (b : Bool) : constAV (.bool b) = .iv (.bool b) := rfl
@[go_sem] theorem constAV_str (b : ByteArray) : constAV (.string b) = .iv (.str b) := rfl
@[go_sem] theorem constAV_nilp : constAV (.pointer none) = .iv .nilp := rfl
@[go_sem] theorem constAV_nil : constAV (.slice none 0 0) = .nilsl := rfl
@[go_sem] theorem constAV_map : constAV (.map none) = .iv (.map [] []) := rfl
@[go_sem] theorem constAV_nilf : constAV .nilFunc = .any := rfl
@[go_sem] theorem constAV_agg (l : List Value) : constAV (.agg l.toArray) = mkAgg (l.map constCell) := rfl
@[go_sem] theorem constCell_int (k : IntKind) (n : Int) : constCell (.int k n) = .iv (.int k n) := rfl
@[go_sem] theorem constCell_bool (b : Bool) : constCell (.bool b) = .iv (.bool b) := rfl
@[go_sem] theorem constCell_str (b : ByteArray) : constCell (.string b) = .iv (.str b) := rfl
@[go_sem] theorem constCell_nilp : constCell (.pointer none) = .iv .nilp := rfl
@[go_sem] theorem constCell_nil : constCell (.slice none 0 0) = .nilsl := rfl
@[go_sem] theorem constCell_map : constCell (.map none) = .iv (.map [] []) := rfl
@[go_sem] theorem constIV_int (k : IntKind) (n : Int) : constIV (.int k n) = some (.int k n) := rfl
@[go_sem] theorem constIV_bool (b : Bool) : constIV (.bool b) = some (.bool b) := rfl
@[go_sem] theorem constIV_str (b : ByteArray) : constIV (.string b) = some (.str b) := rfl
@[go_sem] theorem constIV_nil : constIV (.slice none 0 0) = some (.sl 0 []) := rfl
@[go_sem] theorem constIV_nilp : constIV (.pointer none) = some .nilp := rfl
@[go_sem] theorem constIV_agg (l : List Value) : constIV (.agg l.toArray) = (l.mapM constIVcell).map .agg := rfl
@[go_sem] theorem put_none (v : AV) : s.put none v = s := rfl
@[go_sem] theorem put_some (n nb : Nat) (t : Nat → AV) (x : Nat) (v : AV) : St.put ⟨n, t, M, nb⟩ (some x) v = ⟨n, upd t x v, M, nb⟩ := rfl
@[go_sem] theorem upd_at (t : Nat → AV) (x i : Nat) (v : AV) : upd t x v i = if i = x then v else t i := rfl
@[go_sem] theorem want_none (dd : Option Tmp) (op : Op) : s.want ops ⟨dd, op, ty, pos, af, none⟩ = some true := rfl
def wantV (w : Bool) (x : AV) : Option Bool := match x with
  | .iv (.bool b) => some (b == w)
  | .iv (.tup []) => some false
  | _ => none
@[go_sem] theorem wantV_skipped (w : Bool) : wantV w (.iv (.tup [])) = some false := rfl
def wantD (w : Bool) (t : Nat → AV) (x : Option Tmp) : Option Bool := match x with
  | some d => wantV w (t d)
  | none => none
@[go_sem] theorem want_some (n nb : Nat) (t : Nat → AV) (dd : Option Tmp) (op : Op) (j : Nat) (w : Bool) : St.want ops ⟨n, t, M, nb⟩ ⟨dd, op, ty, pos, af, some (j, w)⟩ = wantD w t ((ops[j]?).bind (·.dst)) := by
  unfold St.want wantD wantV
  dsimp only
  all_goals (cases (ops[j]?).bind (·.dst) <;> rfl)
@[go_sem] theorem wantD_some (w : Bool) (t : Nat → AV) (x : Tmp) : wantD w t (some x) = wantV w (t x) := rfl
@[go_sem] theorem wantV_bool (w b : Bool) : wantV w (.iv (.bool b)) = some (b == w) := rfl
@[go_sem] theorem idx_int (k : IntKind) (j : Int) : idx (.iv (.int k j)) = some j := rfl
@[go_sem] theorem bound_none_ (n : Nat) : bound none n = some (n : Int) := rfl
@[go_sem] theorem bound_some_ (x : AV) (n : Nat) : bound (some x) n = idx x := rfl
@[go_sem] theorem cells_agg (cs : List IV) : AV.cells (.iv (.agg cs)) = some (cs.map .iv) := rfl
@[go_sem] theorem cells_agg' (cs : List AV) : AV.cells (.agg cs) = some cs := rfl
@[go_sem] theorem cells_int (k : IntKind) (n : Int) : AV.cells (.iv (.int k n)) = some [.iv (.int k n)] := rfl
@[go_sem] theorem cells_bool (b : Bool) : AV.cells (.iv (.bool b)) = some [.iv (.bool b)] := rfl
@[go_sem] theorem cells_str (b : ByteArray) : AV.cells (.iv (.str b)) = some [.iv (.str b)] := rfl
@[go_sem] theorem cells_nilp : AV.cells (.iv .nilp) = some [.iv .nilp] := rfl
@[go_sem] theorem cells_fnc (f : Nat) : AV.cells (.iv (.fnc f)) = some [.iv (.fnc f)] := rfl
@[go_sem] theorem cells_sl (sz : Nat) (xs : List IV) : AV.cells (.iv (.sl sz xs)) = some [.iv (.sl sz xs)] := rfl
@[go_sem] theorem cells_nilsl : AV.cells .nilsl = some [.nilsl] := rfl
@[go_sem] theorem cells_msl (k off len n : Nat) : AV.cells (.msl k off len n) = some [.msl k off len n] := rfl
@[go_sem] theorem cells_mp (k off : Nat) : AV.cells (.mp k off) = some [.mp k off] := rfl
@[go_sem] theorem cells_mr (k : Nat) : AV.cells (.mr k) = some [.mr k] := rfl
@[go_sem] theorem cells_it (k : Nat) : AV.cells (.it k) = some [.it k] := rfl
@[go_sem] theorem cells_map (ks vs : List IV) : AV.cells (.iv (.map ks vs)) = some [.iv (.map ks vs)] := rfl
@[go_sem] theorem icells_map (ks vs : List IV) : IV.cells (.map ks vs) = [.map ks vs] := rfl
@[go_sem] theorem cells_fn (f : Nat) (cs : List AV) : AV.cells (.fn f cs) = some [.fn f cs] := rfl
@[go_sem] theorem icells_agg (cs : List IV) : IV.cells (.agg cs) = cs := rfl
@[go_sem] theorem icells_int (k : IntKind) (n : Int) : IV.cells (.int k n) = [.int k n] := rfl
@[go_sem] theorem icells_bool (b : Bool) : IV.cells (.bool b) = [.bool b] := rfl
@[go_sem] theorem icells_str (b : ByteArray) : IV.cells (.str b) = [.str b] := rfl
@[go_sem] theorem icells_sl (sz : Nat) (xs : List IV) : IV.cells (.sl sz xs) = [.sl sz xs] := rfl
@[go_sem] theorem fits_int (k : IntKind) (n : Int) : IV.fits 1 (.int k n) = true := rfl
@[go_sem] theorem fits_bool (b : Bool) : IV.fits 1 (.bool b) = true := rfl
@[go_sem] theorem fits_str (b : ByteArray) : IV.fits 1 (.str b) = true := rfl
@[go_sem] theorem fits_sl (sz : Nat) (xs : List IV) : IV.fits 1 (.sl sz xs) = true := rfl
@[go_sem] theorem fits_agg (sz : Nat) (cs : List IV) : IV.fits sz (.agg cs) = (cs.length == sz && cs.all IV.one) := rfl
attribute [go_sem] IV.one AV.one ivs mkAgg varPart elemPart setCells putElem cellF cellsF toIVF partsF fillRow argsF argsT
def fillC (p : Nat → Option (Nat × Nat)) (cells : List AV) (rest : List (Nat × AV)) (off size : Nat) : Option (List AV) → Option (List AV)
  | none => none
  | some cs => if cs.length ≠ size ∨ off + size > cells.length then none else fillAV p (setCells cells off cs) rest
def fillB (p : Nat → Option (Nat × Nat)) (cells : List AV) (rest : List (Nat × AV)) (v : AV) : Option (Nat × Nat) → Option (List AV)
  | none => none
  | some q => fillC p cells rest q.1 q.2 v.cells
@[go_sem ↓] theorem fillAV_nil (p : Nat → Option (Nat × Nat)) (cells : List AV) : fillAV p cells [] = some cells := by rw [fillAV]
@[go_sem ↓] theorem fillAV_cons (p : Nat → Option (Nat × Nat)) (cells : List AV) (i : Nat) (v : AV) (rest : List (Nat × AV)) : fillAV p cells ((i, v) :: rest) = fillB p cells rest v (p i) := by
  rw [fillAV]
  cases p i with
  | none => rfl
  | some q =>
    obtain ⟨off, size⟩ := q
    simp only [fillB, Option.bind_some]
    cases v.cells <;> rfl
@[go_sem] theorem fillB_none (p : Nat → Option (Nat × Nat)) (cells : List AV) (rest : List (Nat × AV)) (v : AV) : fillB p cells rest v none = none := rfl
@[go_sem] theorem fillB_some (p : Nat → Option (Nat × Nat)) (cells : List AV) (rest : List (Nat × AV)) (v : AV) (q : Nat × Nat) : fillB p cells rest v (some q) = fillC p cells rest q.1 q.2 v.cells := rfl
@[go_sem] theorem fillC_none (p : Nat → Option (Nat × Nat)) (cells : List AV) (rest : List (Nat × AV)) (off size : Nat) : fillC p cells rest off size none = none := rfl
@[go_sem high] theorem fillC_one (p : Nat → Option (Nat × Nat)) (cells : List AV) (rest : List (Nat × AV)) (off : Nat) (c : AV) : fillC p cells rest off 1 (some [c]) = if off < cells.length then fillAV p (cells.set off c) rest else none := by
  show (if [c].length ≠ 1 ∨ off + 1 > cells.length then none else fillAV p (setCells cells off [c]) rest) = _
  have hc : ([c].length ≠ 1 ∨ off + 1 > cells.length) ↔ ¬ off < cells.length := by
    rw [List.length_singleton]; omega
  by_cases h : off < cells.length
  · rw [if_pos h, if_neg (fun h2 => hc.1 h2 h)]; rfl
  · rw [if_neg h, if_pos (hc.2 h)]
@[go_sem] theorem fillC_some (p : Nat → Option (Nat × Nat)) (cells : List AV) (rest : List (Nat × AV)) (off size : Nat) (cs : List AV) : fillC p cells rest off size (some cs) = if cs.length ≠ size ∨ off + size > cells.length then none else fillAV p (setCells cells off cs) rest := rfl

@[go_sem] theorem bin_int (op : BinOp) (t : TypeId) (k k' : IntKind) (a b : Int) : binAV P op t (.iv (.int k a)) (.iv (.int k' b)) = if isShift op = true then shiftI op k a b else if k = k' then numBin op k a b else none := rfl
@[go_sem] theorem bin_str (op : BinOp) (t : TypeId) (a b : ByteArray) : binAV P op t (.iv (.str a)) (.iv (.str b)) = strBin op a b := rfl
def boolBin (kd : Option Kd) (op : BinOp) (a b : Bool) : Option IV := match kd, op with
    | some .bool, .eql => some (.bool (a == b))
    | some .bool, .neq => some (.bool (!(a == b)))
    | _, _ => none
@[go_sem] theorem bin_bool (op : BinOp) (t : TypeId) (a b : Bool) : binAV P op t (.iv (.bool a)) (.iv (.bool b)) = boolBin (tKind P t) op a b := rfl
@[go_sem] theorem boolBin_eql (a b : Bool) : boolBin (some .bool) .eql a b = some (.bool (a == b)) := rfl
@[go_sem] theorem boolBin_neq (a b : Bool) : boolBin (some .bool) .neq a b = some (.bool (!(a == b))) := rfl
def ptrBin (kd : Option Kd) (op : BinOp) (b : Bool) : Option IV := match kd, op with
    | some .ptr, .eql => some (.bool b)
    | some .ptr, .neq => some (.bool (!b))
    | _, _ => none
@[go_sem] theorem bin_mp (op : BinOp) (t : TypeId) (k off : Nat) : binAV P op t (.mp k off) (.iv .nilp) = ptrBin (tKind P t) op false := by
  unfold binAV ptrBin
  cases tKind P t with
  | none => cases op <;> rfl
  | some kd => cases kd <;> cases op <;> rfl
@[go_sem] theorem bin_nilp (op : BinOp) (t : TypeId) : binAV P op t (.iv .nilp) (.iv .nilp) = ptrBin (tKind P t) op true := by
  unfold binAV ptrBin
  cases tKind P t with
  | none => cases op <;> rfl
  | some kd => cases kd <;> cases op <;> rfl
@[go_sem] theorem ptrBin_eql (b : Bool) : ptrBin (some .ptr) .eql b = some (.bool b) := rfl
@[go_sem] theorem ptrBin_neq (b : Bool) : ptrBin (some .ptr) .neq b = some (.bool (!b)) := rfl
attribute [go_sem] isShift numBin shiftI strBin unAV
@[go_sem] theorem resAV_tmp_ (t : Tmp) : resAV P s (.tmp t) = some (s.t t) := rfl
attribute [go_sem] resAV resAVs one? retV postQ isFCall rowAt
@[go_sem ↓] theorem thenQ_normal (K : St → Prop) (Q : Exit → St → Prop) (s : St) : thenQ K Q .normal s = K s := Eq.trans rfl rfl
@[go_sem ↓] theorem thenQ_exit (K : St → Prop) (Q : Exit → St → Prop) (i : Nat) (s : St) : thenQ K Q (.exit i) s = Q (.exit i) s := Eq.trans rfl rfl
@[go_sem ↓] theorem thenQ_ret (K : St → Prop) (Q : Exit → St → Prop) (s : St) : thenQ K Q .ret s = Q .ret s := Eq.trans rfl rfl
@[go_sem ↓] theorem blockQ_normal (i : Nat) (Q : Exit → St → Prop) (s : St) : blockQ i Q .normal s = Q .normal s := Eq.trans rfl rfl
@[go_sem ↓] theorem blockQ_exit (i j : Nat) (Q : Exit → St → Prop) (s : St) : blockQ j Q (.exit i) s = if i = j then Q .normal s else Q (.exit i) s := Eq.trans rfl rfl
@[go_sem ↓] theorem blockQ_ret (i : Nat) (Q : Exit → St → Prop) (s : St) : blockQ i Q .ret s = Q .ret s := Eq.trans rfl rfl
@[go_sem ↓] theorem scopeQ_normal (Q : Exit → St → Prop) (s : St) : scopeQ Q .normal s = Q .normal s := Eq.trans rfl rfl
@[go_sem ↓] theorem scopeQ_exit (i : Nat) (Q : Exit → St → Prop) (s : St) : scopeQ Q (.exit i) s = Q (.exit i) s := Eq.trans rfl rfl
@[go_sem ↓] theorem scopeQ_ret (Q : Exit → St → Prop) (s : St) : scopeQ Q .ret s = Q .ret s := Eq.trans rfl rfl
attribute [go_sem] if_true if_false Option.bind_some Option.bind_none Option.map_some Option.map_none List.map_cons List.map_nil List.getElem?_cons_zero List.getElem?_cons_succ List.getElem?_nil List.length_cons List.length_nil List.length_map
  List.nil_append List.cons_append List.append_nil List.set_cons_zero List.set_cons_succ List.set_nil List.take_zero List.take_succ_cons List.take_nil List.drop_zero List.drop_succ_cons List.drop_nil List.all_cons List.all_nil List.isEmpty_cons List.isEmpty_nil
  true_and and_true false_and and_false true_or or_true false_or or_false and_self or_self not_true_eq_false not_false_eq_true Bool.and_true Bool.true_and Bool.and_false Bool.false_and Bool.or_true Bool.true_or Bool.or_false Bool.false_or Bool.not_true Bool.not_false
  Bool.false_eq_true decide_true decide_false ite_self List.replicate_zero List.replicate_succ Nat.add_zero Nat.zero_add Nat.mul_one List.drop_append_of_le_length
  forall_const true_implies false_implies implies_true Bool.not_eq_true Bool.not_eq_false beq_self_eq_true
@[go_sem] theorem beq_bool_true (b : Bool) : (b == true) = b := by cases b <;> rfl
@[go_sem] theorem beq_bool_false (b : Bool) : (b == false) = !b := by cases b <;> rfl
theorem wantK_split {b : Bool} {f : Bool → Prop} {t : Tok f} (h1 : b = true → f true) (h0 : b = false → f false) : wantT (some b) f t := ⟨h1, h0⟩
def condT (v : AV) (A B : Prop) (_ : Tok (A, B)) : Prop := match v with
  | .iv (.bool b) => (b = true → A) ∧ (b = false → B)
  | _ => False
@[go_sem] theorem condK_true (A B : Prop) (t : Tok (A, B)) : condT (.iv (.bool true)) A B t = A := by simp [condT]
@[go_sem] theorem condK_false (A B : Prop) (t : Tok (A, B)) : condT (.iv (.bool false)) A B t = B := by simp [condT]
theorem condK_split {b : Bool} {A B : Prop} {t : Tok (A, B)} (h1 : b = true → A) (h0 : b = false → B) : condT (.iv (.bool b)) A B t := ⟨h1, h0⟩
theorem aw_condK {c : Operand} {x y : Code} {Q : Exit → St → Prop} (h : condT (s.ev c) (aw P x Q s) (aw P y Q s) ⟨()⟩) : aw P (.cond c x y) Q s := by
  unfold condT at h
  split at h
  · rename_i b hb
    exact aw_cond hb h.1 h.2
  · exact h.elim
theorem pickV_split {b : Bool} {x y : AV} {F : AV → List MO → Prop} {t : Tok F} (h1 : b = true → F x M) (h0 : b = false → F y M) : effT (pickV (.iv (.bool b)) x y M) F t := by
  cases b
  · exact h0 rfl
  · exact h1 rfl
attribute [go_sem] decide_eq_true_eq decide_eq_false_iff_not Bool.not_eq_true' Bool.not_eq_false' reduceCtorEq
end

/-! ### numbers, where nothing wraps -/
theorem wrapS {x : Int} (h : -9223372036854775808 ≤ x ∧ x ≤ 9223372036854775807) : IntKind.i64.wrap x = x := wrap_i64_id h.1 h.2
theorem wrapU {x : Int} (h : 0 ≤ x ∧ x ≤ 18446744073709551615) : IntKind.u64.wrap x = x := by
  show (if (false && decide (x % (2 ^ 64 : Int) ≥ (2 ^ (64 - 1) : Int))) = true then x % (2 ^ 64 : Int) - (2 ^ 64 : Int) else x % (2 ^ 64 : Int)) = x
  simp only [Bool.false_and, Bool.false_eq_true, if_false]
  omega
theorem wrapB {x : Int} (h : 0 ≤ x ∧ x ≤ 255) : IntKind.u8.wrap x = x := by
  show (if (false && decide (x % (2 ^ 8 : Int) ≥ (2 ^ (8 - 1) : Int))) = true then x % (2 ^ 8 : Int) - (2 ^ 8 : Int) else x % (2 ^ 8 : Int)) = x
  simp only [Bool.false_and, Bool.false_eq_true, if_false]
  omega
theorem tdivS {a b : Int} (h : 0 ≤ a) : a.tdiv b = a / b := Int.tdiv_eq_ediv_of_nonneg h
theorem tmodS {a b : Int} (h : 0 ≤ a) : a.tmod b = a % b := Int.tmod_eq_emod_of_nonneg h
theorem mapGetI {f : Int → IV} {l : List Int} {i : Nat} (h : i < l.length) : (l.map f)[i]? = some (f (l.getD i 0)) := by
  rw [List.getElem?_map, List.getElem?_eq_getElem h]
  simp [List.getD, h]
theorem mapGetB {f : Bool → IV} {l : List Bool} {i : Nat} (h : i < l.length) : (l.map f)[i]? = some (f (l.getD i false)) := by
  rw [List.getElem?_map, List.getElem?_eq_getElem h]
  simp [List.getD, h]
theorem replGet {x : IV} {n i : Nat} (h : i < n) : (List.replicate n x)[i]? = some x := by simp [h]
theorem getMap {α : Type} {f : α → IV} {l : List α} {i : Nat} {x : α} (h : l[i]? = some x) : (l.map f)[i]? = some (f x) := by rw [List.getElem?_map, h]; rfl
theorem natCast_zero : ((0 : Nat) : Int) = 0 := rfl
theorem natCast_one : ((1 : Nat) : Int) = 1 := rfl
theorem beq_int {a b : Int} : (a == b) = decide (a = b) := by
  by_cases h : a = b <;> simp [h]
theorem bne_int {a b : Int} : (a != b) = decide (¬ a = b) := by
  by_cases h : a = b <;> simp [h]

end Go.Proofs.YtpjncojljamacaaGreat.AM
set_option linter.unusedVariables false
set_option linter.unusedSimpArgs false
namespace Go.Proofs.YtpjncojljamacaaGreat.AM
open Go Go.RowKit

/-! ### slots by a list -/
def sl : List (Nat × AV) → Nat → AV
  | [] => fun _ => .any
  | p :: L => upd (sl L) p.1 p.2
def SlOk (t : Nat → AV) (σ : Nat → Nat) : List (Nat × AV) → Prop
  | [] => True
  | p :: L => t p.1 = ren σ p.2 ∧ SlOk t σ L
theorem SlOk.get {t : Nat → AV} {σ : Nat → Nat} : ∀ {L : List (Nat × AV)}, SlOk t σ L → ∀ i, sl L i = .any ∨ t i = ren σ (sl L i)
  | [], _, i => .inl rfl
  | p :: L, h, i => by
    by_cases e : i = p.1
    · subst e; right; rw [sl, upd_same]; exact h.1
    · rw [sl, upd_ne _ _ e]; exact SlOk.get h.2 i

theorem ren_id {n : Nat} {σ : Nat → Nat} (hσ : ∀ i, i < n → σ i = i) {x : AV} (h : AV.Sc n x) : ren σ x = x := by
  have lst : ∀ cs : List AV, (∀ (i : Nat) (y : AV), cs[i]? = some y → ren σ y = y) → rens σ cs = cs := by
    intro cs h
    rw [rens_map]
    apply List.ext_getElem?
    intro i
    rw [List.getElem?_map]
    cases hc : cs[i]? with
    | none => rfl
    | some y => simp [h i y hc]
  induction h with
  | any => rfl
  | iv => rfl
  | nilsl => rfl
  | msl k off len m h => simp only [ren, hσ k h]
  | mp k off h => simp only [ren, hσ k h]
  | rp k m i c h => simp only [ren, hσ k h]
  | ip => rfl
  | agg cs h ih => simp only [ren, lst cs ih]
  | tup cs h ih => simp only [ren, lst cs ih]
  | fn f cs h ih => simp only [ren, lst cs ih]
  | mr k h => simp only [ren, hσ k h]
  | it k h => simp only [ren, hσ k h]

def idl (l : List Nat) : Nat → Prop
  | 0 => True
  | n + 1 => l[n]? = some n ∧ idl l n
theorem idl_spec {l : List Nat} : ∀ {n : Nat}, idl l n → ∀ i, i < n → l[i]? = some i
  | 0, _, i, h => by omega
  | n + 1, h, i, hi => by
    by_cases e : i = n
    · subst e; exact h.1
    · exact idl_spec h.2 i (by omega)

def PartR (M : List MO) (σ : Nat → Nat) : List Nat → List MO → Prop
  | [], [] => True
  | j :: l, o :: os => M[j]? = some (renMO σ o) ∧ PartR M σ l os
  | _, _ => False
theorem PartR.get {M : List MO} {σ : Nat → Nat} : ∀ {l : List Nat} {Ml : List MO}, PartR M σ l Ml → Ml.length = l.length ∧ ∀ (i j : Nat) (o : MO), l[i]? = some j → Ml[i]? = some o → M[j]? = some (renMO σ o)
  | [], [], _ => ⟨rfl, by simp⟩
  | j :: l, o :: os, h => by
    obtain ⟨h1, h2⟩ := PartR.get h.2
    refine ⟨by simp [h1], fun i j' o' hi ho => ?_⟩
    cases i with
    | zero => simp at hi ho; subst hi ho; exact h.1
    | succ i => exact h2 i j' o' (by simpa using hi) (by simpa using ho)
  | [], _ :: _, h => h.elim
  | _ :: _, [], h => h.elim
def ndR : List Nat → Bool
  | [] => true
  | j :: l => l.all (fun i => i != j) && ndR l
theorem ndR_nd : ∀ {l : List Nat}, ndR l = true → l.Nodup
  | [], _ => List.nodup_nil
  | j :: l, h => by
    simp only [ndR, Bool.and_eq_true, List.all_eq_true] at h
    exact List.nodup_cons.2 ⟨fun hm => by have := h.1 j hm; simp at this, ndR_nd h.2⟩
theorem Part.ofR {M Ml : List MO} {l : List Nat} (hn : ndR l = true) (h : PartR M (sg l M.length) l Ml) : Part M l Ml := ⟨ndR_nd hn, h.get.1, h.get.2⟩

section
variable {P : Program} {s : St}

theorem wk_sel (l : List Nat) (Ml : List MO) (t' : Nat → AV) (hp : Part s.M l Ml) (hb : ∀ i, i < s.b → l[i]? = some i) (ht : ∀ i, t' i = .any ∨ s.t i = ren (sg l s.M.length) (t' i)) : Wk s ⟨s.n, t', Ml, s.b⟩ := by
  refine ⟨rfl, fun X O w0 F ρ a w hs => ⟨partρ ρ l, ?_⟩⟩
  obtain ⟨hm, hE⟩ := hs.mem.sel hp
  refine ⟨hs.size, hs.defers, fun i => ?_, hm, fun x u hx => ?_⟩
  · show RepA Ml (partρ ρ l) (excl X Ml (partρ ρ l)) w (t' i) (a.tmps.getD i undef)
    rcases ht i with h | h
    · rw [h]; exact .any _
    · exact ((hs.tm i).part hp (t' i) h).mono (Evo.weak hE)
  · obtain ⟨h1, h2⟩ := hs.fr x u hx
    have hid : ren (sg l s.M.length) x = x := ren_id (fun i hi => by simp [sg, hb i hi]) h1
    exact ⟨h1, (h2.part hp x hid.symm).mono (Evo.weak hE)⟩

theorem wk_frz {M' : List MO} {n b i : Nat} {t : Nat → AV} {M : List MO} {y : IV} (h : toIVF M (t i) = some (y, M')) : Wk ⟨n, t, M, b⟩ ⟨n, upd t i (.iv y), M', b⟩ := by
  refine ⟨rfl, fun X O w0 F ρ a w hs => ⟨ρ, ?_⟩⟩
  obtain ⟨hf, hy, _⟩ := toIVF_sound hs.mem (hs.tm i) h
  refine ⟨hs.size, hs.defers, fun j => ?_, hf.1, fun x u hx => ⟨(hs.fr x u hx).1, (hs.fr x u hx).2.mono hf.2.1⟩⟩
  show RepA M' ρ (excl X M' ρ) w (upd t i (.iv y) j) (a.tmps.getD j undef)
  by_cases e : j = i
  · subst e; rw [upd_same]; exact .iv _ _ hy
  · rw [upd_ne _ _ e]; exact (hs.tm j).mono hf.2.1

theorem nilrow_ok {X O : Nat → Prop} {w0 : World} {M : List MO} {ρ : Nat → Option Nat} {w : World} (hm : MemOk X O w0 M ρ w) (T sz : Nat) :
    MemOk X O w0 (M ++ [MO.row true T sz []]) (updρ ρ M.length none) w ∧ Evo M (M ++ [MO.row true T sz []]) ρ (updρ ρ M.length none) (excl X M ρ) (excl X (M ++ [MO.row true T sz []]) (updρ ρ M.length none)) w w ∧
      ∀ (E : Nat → Prop) (A : Option Addr), RepA (M ++ [MO.row true T sz []]) (updρ ρ M.length none) E w (.msl M.length 0 0 0) (.slice A 0 0) := by
  have hev := Evo.push (X := X) (M := M) (ρ := ρ) (w := w) (w' := w) (MO.row true T sz []) none (Nat.le_refl _) (fun j hj => rfl) (fun x hx => by cases hx)
  have hobj : ObjRep (M ++ [MO.row true T sz []]) (updρ ρ M.length none) (excl X (M ++ [MO.row true T sz []]) (updρ ρ M.length none)) w M.length (.row true T sz []) := by
    refine ⟨by simp, ?_⟩
    rw [updρ_same]
  refine ⟨hm.push _ _ hm.keep (Nat.le_refl _) (fun j hj => rfl) (fun x hx => by cases hx) hobj, hev, fun E A => .msl _ _ _ _ _ true T sz [] (by simp) (Nat.le_refl _) ⟨_, _, _, rfl⟩ (fun _ => ⟨by omega, A, 0, rfl, by omega, ?_⟩)⟩
  rw [updρ_same]; exact ⟨rfl, rfl⟩

theorem wk_ownc (T sz k j : Nat) {n b : Nat} {t : Nat → AV} {M : List MO} {T' : TypeId} {cs : List AV} (hk : M[k]? = some (.var T' cs)) (h : cs[j]? = some .nilsl) :
    Wk ⟨n, t, M, b⟩ ⟨n, t, (M ++ [MO.row true T sz []]).set k (.var T' (cs.set j (.msl M.length 0 0 0))), b⟩ := by
  refine ⟨rfl, fun X O w0 F ρ a w hs => ⟨updρ ρ M.length none, ?_⟩⟩
  obtain ⟨h1, h2, h3⟩ := nilrow_ok hs.mem T sz
  have hk' : (M ++ [MO.row true T sz []])[k]? = some (.var T' cs) := get_append_old hk
  obtain ⟨bl, arr, fz, g1, g2, g3, g4, g5⟩ := h1.obj k _ hk'
  have hev := Evo.set (X := X) (w := w) (w' := w) k bl _ (.var T' (cs.set j (.msl M.length 0 0 0))) hk' g1 rfl (Wrote.refl _ _) rfl (h1.other (lt_of_get hk') g1)
  have hm : MemOk X O w0 ((M ++ [MO.row true T sz []]).set k (.var T' (cs.set j (.msl M.length 0 0 0)))) (updρ ρ M.length none) w := by
    refine h1.set k bl _ _ hk' g1 (Wrote.refl _ _) hev ⟨bl, arr, fz, g1, g2, g3, by simpa using g4, fun i y u hy hu => ?_⟩
    by_cases e : i = j
    · subst e
      rw [List.getElem?_set_self (lt_of_get h)] at hy
      cases hy
      have := g5 i _ u h hu
      obtain ⟨A, hA⟩ := inv_nilsl this
      rw [hA]
      exact (h3 _ A).mono hev
    · rw [List.getElem?_set_ne (Ne.symm e)] at hy
      exact (g5 i y u hy hu).mono hev
  exact ⟨hs.size, hs.defers, fun i => ((hs.tm i).mono h2).mono hev, hm, fun x u hx => ⟨(hs.fr x u hx).1, ((hs.fr x u hx).2.mono h2).mono hev⟩⟩

end

theorem wk_to {s : St} (l : List Nat) (L : List (Nat × AV)) (Ml : List MO) (hn : ndR l = true) (hb : idl l s.b) (hp : PartR s.M (sg l s.M.length) l Ml) (ht : SlOk s.t (sg l s.M.length) L) : Wk s ⟨s.n, sl L, Ml, s.b⟩ :=
  wk_sel l Ml (sl L) (Part.ofR hn hp) (idl_spec hb) ht.get
theorem wk_by (l : List Nat) {n n' b b' : Nat} {t : Nat → AV} {M Ml : List MO} {L : List (Nat × AV)} (h : n' = n ∧ b' = b ∧ ndR l = true ∧ idl l b ∧ PartR M (sg l M.length) l Ml ∧ SlOk t (sg l M.length) L) : Wk ⟨n, t, M, b⟩ ⟨n', sl L, Ml, b'⟩ := by
  obtain ⟨rfl, rfl, h1, h2, h3, h4⟩ := h
  exact wk_to (s := ⟨_, t, M, _⟩) l L Ml h1 h2 h3 h4

/-! ### the end of a function that has memory -/
def argsA : List AV → Nat → Nat → AV
  | [], _ => fun _ => .any
  | x :: l, k => upd (argsA l (k + 1)) k x
theorem argsA_get : ∀ (l : List AV) (k i : Nat), argsA l k i = if k ≤ i then (match l[i - k]? with | some x => x | none => .any) else .any
  | [], k, i => by simp [argsA]
  | x :: l, k, i => by
    simp only [argsA]
    by_cases e : i = k
    · subst e; rw [upd_same]; simp
    · rw [upd_ne _ _ e, argsA_get l (k + 1) i]
      by_cases h : k ≤ i
      · rw [if_pos (by omega), if_pos h, show i - k = (i - (k + 1)) + 1 from by omega, List.getElem?_cons_succ]
      · rw [if_neg (by omega), if_neg h]
def sv (l : List AV) (i : Nat) : AV := l.getD i .any
def oneA : List AV → AV
  | [y] => y
  | ys => .tup ys
def fin0 (P : Program) (rs : List ResultVar) (r : AV) (M' : List MO) (s : St) : Prop :=
  ∃ avs ys, resAVs P s rs = some avs ∧ ys.length = avs.length ∧ oneA ys = r ∧ Wk ⟨avs.length, sv avs, s.M, s.b⟩ ⟨avs.length, sv ys, M', s.b⟩
def finM (P : Program) (rs : List ResultVar) (r : AV) (M' : List MO) (s : St) : Prop := ∃ s1, Wk s s1 ∧ fin0 P rs r M' s1
def postM (P : Program) (rs : List ResultVar) (r : AV) (M' : List MO) : Exit → St → Prop
  | .normal, s => finM P rs r M' s
  | .ret, s => finM P rs r M' s
  | _, _ => False

def unone (n : Nat) (r : AV) : List AV := if n = 1 then [r] else match r with
  | .tup ys => ys
  | _ => []
theorem fin_keep {P : Program} {rs : List ResultVar} {r : AV} {M' : List MO} {s : St} (l : List Nat) {avs : List AV} (h1 : resAVs P s rs = some avs) (h : avs = rens (sg l s.M.length) (unone avs.length r) ∧ oneA (unone avs.length r) = r ∧
    ndR l = true ∧ idl l s.b ∧ PartR s.M (sg l s.M.length) l M') : fin0 P rs r M' s := by
  obtain ⟨ha, hr, hn, hb, hp⟩ := h
  have hlen : (unone avs.length r).length = avs.length := by conv => rhs; rw [ha, rens_len]
  refine ⟨avs, unone avs.length r, h1, hlen, hr, ?_⟩
  refine wk_sel (s := ⟨avs.length, sv avs, s.M, s.b⟩) l M' _ (Part.ofR hn hp) (idl_spec hb) (fun i => ?_)
  show sv (unone avs.length r) i = .any ∨ sv avs i = ren (sg l s.M.length) (sv (unone avs.length r) i)
  by_cases hi : i < avs.length
  · right
    have e1 : avs[i]? = some (sv avs i) := by simp [sv, hi]
    have e2 : (unone avs.length r)[i]? = some (sv (unone avs.length r) i) := by simp [sv, hlen, hi]
    have : (rens (sg l s.M.length) (unone avs.length r))[i]? = avs[i]? := congrArg (fun x => x[i]?) ha.symm
    rw [rens_get, e1, e2] at this
    exact (Option.some.inj this).symm
  · left
    simp [sv, List.getElem?_eq_none (show (unone avs.length r).length ≤ i by omega)]

theorem fin_frz {P : Program} {rs : List ResultVar} {r : AV} {M' : List MO} {s : St} (l : List Nat) {avs : List AV} {ys : List IV} {M1 : List MO} (h1 : resAVs P s rs = some avs) (h2 : argsF s.M avs = some (ys, M1))
    (h : oneA (ys.map .iv) = r ∧ ndR l = true ∧ idl l s.b ∧ PartR M1 (sg l M1.length) l M') : fin0 P rs r M' s := by
  obtain ⟨hr, hn, hb, hp⟩ := h
  have hlen : ys.length = avs.length := by
    have key : ∀ (l : List AV) {M M' : List MO} {ys : List IV}, argsF M l = some (ys, M') → ys.length = l.length := by
      intro l
      induction l with
      | nil => intro M M' ys h; simp [argsF] at h; rw [h.1]; rfl
      | cons x l ih =>
        intro M M' ys h
        simp only [argsF] at h
        obtain ⟨⟨y, Ma⟩, _, h⟩ := option_bind_some h
        obtain ⟨⟨ys', Mb⟩, h2, h⟩ := option_map_some h
        cases h; simp [ih h2]
    exact key avs h2
  refine ⟨avs, ys.map .iv, h1, by simp [hlen], hr, ?_⟩
  have hwk1 : Wk ⟨avs.length, sv avs, s.M, s.b⟩ ⟨avs.length, sv (ys.map .iv), M1, s.b⟩ := by
    refine ⟨rfl, fun X O w0 F ρ a w hs => ⟨ρ, ?_⟩⟩
    have hsz : a.tmps.size = avs.length := hs.size
    obtain ⟨hf, _, hy⟩ := argsF_sound avs hs.mem a.tmps.toList (by simpa using hsz) (fun i x v hx hv => by
      have := hs.tm i
      rw [show St.t ⟨avs.length, sv avs, s.M, s.b⟩ i = x from by simp [sv, hx], show a.tmps.getD i undef = v from by rw [Array.getD_eq_getD_getElem?, ← Array.getElem?_toList, hv]; rfl] at this
      exact this) h2
    refine ⟨hs.size, hs.defers, fun i => ?_, hf.1, fun x u hx => ⟨(hs.fr x u hx).1, (hs.fr x u hx).2.mono hf.2.1⟩⟩
    show RepA M1 ρ (excl X M1 ρ) w (sv (ys.map .iv) i) (a.tmps.getD i undef)
    by_cases hi : i < ys.length
    · have e1 : ys[i]? = some (ys[i]) := List.getElem?_eq_getElem hi
      have e2 : a.tmps[i]? = some (a.tmps[i]'(by omega)) := Array.getElem?_eq_getElem (by omega)
      rw [show sv (ys.map .iv) i = .iv ys[i] from by simp [sv, hi], show a.tmps.getD i undef = a.tmps[i]'(by omega) from by rw [Array.getD_eq_getD_getElem?, e2]; rfl]
      exact .iv _ _ (hy i _ _ e1 (by rw [Array.getElem?_toList, e2]))
    · rw [show sv (ys.map .iv) i = .any from by simp [sv, List.getElem?_eq_none (show ys.length ≤ i by omega)]]
      exact .any _
  refine hwk1.trans (wk_sel (s := ⟨avs.length, sv (ys.map .iv), M1, s.b⟩) l M' _ (Part.ofR hn hp) (idl_spec hb) (fun i => ?_))
  show sv (ys.map .iv) i = .any ∨ sv (ys.map .iv) i = ren (sg l M1.length) (sv (ys.map .iv) i)
  right
  simp only [sv, List.getD_eq_getElem?_getD, List.getElem?_map]
  cases ys[i]? <;> rfl

theorem fin_wk {P : Program} {rs : List ResultVar} {r : AV} {M' : List MO} {s s1 : St} (hw : Wk s s1) (h : finM P rs r M' s1) : finM P rs r M' s := by
  obtain ⟨s2, h1, h2⟩ := h
  exact ⟨s2, hw.trans h1, h2⟩
def optK {α : Type} (o : Option α) (f : α → Prop) : Prop := match o with
  | some a => f a
  | none => False
def finKeep (P : Program) (rs : List ResultVar) (r : AV) (M' : List MO) (l : List Nat) (s : St) : Prop := optK (resAVs P s rs) fun avs => avs = rens (sg l s.M.length) (unone avs.length r) ∧ oneA (unone avs.length r) = r ∧
    ndR l = true ∧ idl l s.b ∧ PartR s.M (sg l s.M.length) l M'
theorem fin_k {P : Program} {rs : List ResultVar} {r : AV} {M' : List MO} {s : St} (l : List Nat) (h : finKeep P rs r M' l s) : finM P rs r M' s := by
  unfold finKeep optK at h
  split at h
  · rename_i avs ha
    exact ⟨s, Wk.refl s, fin_keep l ha h⟩
  · exact h.elim
def finFrz (P : Program) (rs : List ResultVar) (r : AV) (M' : List MO) (l : List Nat) (s : St) : Prop := optK (resAVs P s rs) fun avs => optK (argsF s.M avs) fun q => oneA (q.1.map .iv) = r ∧ ndR l = true ∧ idl l s.b ∧ PartR q.2 (sg l q.2.length) l M'
theorem fin_f {P : Program} {rs : List ResultVar} {r : AV} {M' : List MO} {s : St} (l : List Nat) (h : finFrz P rs r M' l s) : finM P rs r M' s := by
  unfold finFrz optK at h
  split at h
  · rename_i avs ha
    split at h
    · rename_i q hq
      exact ⟨s, Wk.refl s, fin_frz l ha hq h⟩
    · exact h.elim
  · exact h.elim

def postR (P : Program) (rs : List ResultVar) (R : AV → List MO → Prop) : Exit → St → Prop
  | .normal, s => ∃ r M', R r M' ∧ finM P rs r M' s
  | .ret, s => ∃ r M', R r M' ∧ finM P rs r M' s
  | _, _ => False

theorem RCalls.of_aw {P : Program} {f : Nat} {fn : Func} {c : Code} {args : List AV} {M : List MO} {R : AV → List MO → Prop} (hf : P.funcs[f]? = some fn) (hb : fn.body = some c) (hc : Callable P f) (hn : bnd true fn.ntmps c = true) (hl : args.length ≤ fn.ntmps)
    (hlen : ∀ r M', R r M' → M.length ≤ M'.length) (h : aw P c (postR P fn.results.toList R) ⟨fn.ntmps, argsA args 0, M, M.length⟩) : RCalls P f args M R := by
  refine ⟨hc, hlen, fun X w ρ vs hm hvl hargs => ?_⟩
  have hsim : Sim X (blocks M ρ) w (fun x u => RepA M ρ (excl X M ρ) w x u) ⟨fn.ntmps, argsA args 0, M, M.length⟩ ρ { tmps := vs.toArray ++ Array.replicate (fn.ntmps - vs.toArray.size) undef, defers := [] } w := {
    size := by simp; omega
    defers := Dfr.nil _ _ _ _
    tm := by
      intro i
      show RepA M ρ (excl X M ρ) w (argsA args 0 i) _
      rw [argsA_get, if_pos (Nat.zero_le _), Nat.sub_zero]
      cases hx : args[i]? with
      | none => exact .any _
      | some x =>
        have hi := lt_of_get hx
        have hv : vs[i]? = some (vs[i]'(by omega)) := List.getElem?_eq_getElem (by omega)
        have h1 := hargs i x _ hx hv
        have h2 : (vs.toArray ++ Array.replicate (fn.ntmps - vs.toArray.size) undef).getD i undef = vs[i]'(by omega) := by
          rw [Array.getD_eq_getD_getElem?, Array.getElem?_append_left (by simp; omega)]
          simp [hv]
        rw [h2]
        exact h1
    mem := hm
    fr := fun x u hx => ⟨hx.sc, hx⟩ }
  refine calls_of_marks hf hb (wpIn_mono (h none hn X (blocks M ρ) w _ _ _ w hsim) ?_)
  rintro e a' w' ⟨s', ρ', hn', hs', hq⟩
  have fin : ∀ (a' : Act) (w' : World), Sim X (blocks M ρ) w (fun x u => RepA M ρ (excl X M ρ) w x u) s' ρ' a' w' → (∃ r M', R r M' ∧ finM P fn.results.toList r M' s') → ∃ v, (results fn a'.tmps).run P w' = .ok v w' ∧ ∃ r M', R r M' ∧ ∃ v1 ρ', Ending.returned v = .returned v1 ∧ MemOk X (blocks M ρ) w M' ρ' w' ∧ RepA M' ρ' (excl X M' ρ') w' r v1 ∧ Keeps M M' ρ ρ' (excl X M ρ) (excl X M' ρ') w w' := by
    rintro a' w' hs' ⟨r, M', hRR, s1, hw1, avs, ys, hr1, hyl, hr, hwk⟩
    obtain ⟨ρ', hs'⟩ := hw1.2 _ _ _ _ _ _ _ hs'
    obtain ⟨us, hus, hl, hrs⟩ := run_ress hs' hr1
    have hs2 : Sim X (blocks M ρ) w (fun x u => RepA M ρ (excl X M ρ) w x u) ⟨avs.length, sv avs, s1.M, s1.b⟩ ρ' { tmps := us.toArray, defers := [] } w' := {
      size := by simp [hl]
      defers := Dfr.nil _ _ _ _
      tm := by
        intro i
        show RepA s1.M ρ' (excl X s1.M ρ') w' (sv avs i) (us.toArray.getD i undef)
        by_cases hi : i < avs.length
        · have e1 : avs[i]? = some (avs[i]) := List.getElem?_eq_getElem hi
          have e2 : us[i]? = some (us[i]'(by omega)) := List.getElem?_eq_getElem (by omega)
          rw [show sv avs i = avs[i] from by simp [sv, hi], show us.toArray.getD i undef = us[i]'(by omega) from by rw [Array.getD_eq_getD_getElem?, List.getElem?_toArray, e2]; rfl]
          exact hrs i _ _ e1 e2
        · rw [show sv avs i = .any from by simp [sv, List.getElem?_eq_none (show avs.length ≤ i by omega)]]
          exact .any _
      mem := hs'.mem
      fr := hs'.fr }
    obtain ⟨ρ2, hs3⟩ := hwk.2 _ _ _ _ _ _ _ hs2
    have hmem : MemOk X (blocks M ρ) w M' ρ2 w' := hs3.mem
    have hfr : Keeps M M' ρ ρ2 (excl X M ρ) (excl X M' ρ2) w w' := fun x u hx => (hs3.fr x u hx).2
    have htm : ∀ (i : Nat) (y : AV) (v : Value), ys[i]? = some y → us[i]? = some v → RepA M' ρ2 (excl X M' ρ2) w' y v := by
      intro i y v hy hv
      have := hs3.tm i
      rw [show St.t ⟨avs.length, sv ys, M', s1.b⟩ i = y from by simp [sv, hy], show us.toArray.getD i undef = v from by rw [Array.getD_eq_getD_getElem?, List.getElem?_toArray, hv]; rfl] at this
      exact this
    have hrun : (fn.results.mapM (fun r => match r with | .tmp t => pure (a'.tmps.getD t undef) | .cell p t => do loadVar t (← asAddr (a'.tmps.getD p undef)) : ResultVar → Sem Value)).run P w' = .ok us.toArray w' := by
      have hus' : (fn.results.toList.mapM (fun r => match r with | .tmp t => pure (a'.tmps.getD t undef) | .cell p t => do loadVar t (← asAddr (a'.tmps.getD p undef)) : ResultVar → Sem Value)).run P w' = .ok us w' := hus
      rw [Array.mapM_eq_mapM_toList, Sem.run_map, hus']; rfl
    refine ⟨if h : us.toArray.size = 1 then us.toArray[0] else .tuple us.toArray, ?_, r, M', hRR, _, ρ2, rfl, hmem, ?_, hfr⟩
    · unfold results
      rw [Sem.run_bind]
      refine (congrArg (fun r => Result.andThen r _) (Eq.trans (congrArg (fun (f : ResultVar → Sem Value) => Sem.run P (Array.mapM f fn.results) w') (funext fun r => ?_)) hrun)).trans rfl
      cases r <;> rfl
    · subst hr
      match ys, us, hl, hyl, htm with
      | [], us, hl, hl2, hX =>
        have : us = [] := List.eq_nil_of_length_eq_zero (by simp at hl2; omega)
        subst this
        exact .tup [] #[] rfl (by simp)
      | [y], us, hl, hl2, hX =>
        obtain ⟨u, rfl⟩ : ∃ u, us = [u] := by
          cases us with
          | nil => simp at hl hl2; omega
          | cons u l => cases l with
            | nil => exact ⟨u, rfl⟩
            | cons => simp at hl hl2; omega
        exact hX 0 y u rfl rfl
      | y :: y' :: l, us, hl, hl2, hX =>
        have hne : ¬ us.toArray.size = 1 := by simp at hl2 ⊢; omega
        rw [dif_neg hne]
        exact .tup _ _ (by simp at hl2 ⊢; omega) (fun i x v h3 h4 => hX i x v h3 (by simpa using h4))
  cases e with
  | normal => exact hs'.leaves (fun w1 hs1 => fin { a' with defers := [] } w1 hs1 hq)
  | ret => exact hs'.leaves (fun w1 hs1 => fin { a' with defers := [] } w1 hs1 hq)
  | exit i => exact hq.elim
  | goto i => exact hq.elim
  | panic c => exact hq.elim
  | outgrown => exact hq.elim

theorem MCalls.of_aw {P : Program} {f : Nat} {fn : Func} {c : Code} {args : List AV} {M M' : List MO} {r : AV} (hf : P.funcs[f]? = some fn) (hb : fn.body = some c) (hc : Callable P f) (hn : bnd true fn.ntmps c = true) (hl : args.length ≤ fn.ntmps)
    (hlen : M.length ≤ M'.length) (h : aw P c (postM P fn.results.toList r M') ⟨fn.ntmps, argsA args 0, M, M.length⟩) : MCalls P f args M r M' := by
  have hq : ∀ e s', postM P fn.results.toList r M' e s' → postR P fn.results.toList (fun r1 M1 => r1 = r ∧ M1 = M') e s' := by
    intro e s' h
    cases e with
    | normal => exact ⟨r, M', ⟨rfl, rfl⟩, h⟩
    | ret => exact ⟨r, M', ⟨rfl, rfl⟩, h⟩
    | _ => exact h
  have hR : RCalls P f args M (fun r1 M1 => r1 = r ∧ M1 = M') := RCalls.of_aw hf hb hc hn hl (fun _ _ h1 => by rw [h1.2]; exact hlen) (aw_mono h hq)
  exact ⟨hR.1, hlen, fun X w ρ vs h1 h2 h3 => (hR.2.2 X w ρ vs h1 h2 h3).mono (fun e w' ⟨r1, M1, ⟨e1, e2⟩, h4⟩ => by subst e1 e2; exact h4)⟩

/-! ### rules -/
section
variable {P : Program}
attribute [go_sem] oneA postM postR unone idl PartR ndR SlOk argsA finKeep finFrz List.length_append List.length_set List.length_replicate List.length_take
@[go_sem] theorem optK_some {α : Type} (a : α) (f : α → Prop) : optK (some a) f = f a := rfl
@[go_sem] theorem optK_none {α : Type} (f : α → Prop) : optK none f = False := rfl
@[go_sem] theorem sl_nil (i : Nat) : sl [] i = .any := rfl
@[go_sem] theorem sl_cons (a : Nat) (v : AV) (L : List (Nat × AV)) (i : Nat) : sl ((a, v) :: L) i = if i = a then v else sl L i := by
  by_cases h : i = a
  · subst h; simp [sl, upd_same]
  · simp [sl, upd_ne _ _ h, h]
@[go_sem] theorem ren_any (σ : Nat → Nat) : ren σ .any = .any := rfl
@[go_sem] theorem ren_iv (σ : Nat → Nat) (x : IV) : ren σ (.iv x) = .iv x := rfl
@[go_sem] theorem ren_nilsl (σ : Nat → Nat) : ren σ .nilsl = .nilsl := rfl
@[go_sem] theorem ren_msl (σ : Nat → Nat) (k off len n : Nat) : ren σ (.msl k off len n) = .msl (σ k) off len n := rfl
@[go_sem] theorem ren_mp (σ : Nat → Nat) (k off : Nat) : ren σ (.mp k off) = .mp (σ k) off := rfl
@[go_sem] theorem ren_rp (σ : Nat → Nat) (k n i c : Nat) : ren σ (.rp k n i c) = .rp (σ k) n i c := rfl
@[go_sem] theorem ren_ip (σ : Nat → Nat) (sz : Nat) (xs : List IV) (i c : Nat) : ren σ (.ip sz xs i c) = .ip sz xs i c := rfl
@[go_sem] theorem ren_agg (σ : Nat → Nat) (cs : List AV) : ren σ (.agg cs) = .agg (rens σ cs) := rfl
@[go_sem] theorem ren_tup (σ : Nat → Nat) (cs : List AV) : ren σ (.tup cs) = .tup (rens σ cs) := rfl
@[go_sem] theorem ren_mr (σ : Nat → Nat) (k : Nat) : ren σ (.mr k) = .mr (σ k) := rfl
@[go_sem] theorem ren_it (σ : Nat → Nat) (k : Nat) : ren σ (.it k) = .it (σ k) := rfl
@[go_sem] theorem ren_fn (σ : Nat → Nat) (f : Nat) (cs : List AV) : ren σ (.fn f cs) = .fn f (rens σ cs) := rfl
@[go_sem] theorem rens_nil (σ : Nat → Nat) : rens σ [] = [] := rfl
@[go_sem] theorem rens_cons (σ : Nat → Nat) (x : AV) (l : List AV) : rens σ (x :: l) = ren σ x :: rens σ l := rfl
@[go_sem] theorem renMO_row (σ : Nat → Nat) (m : Bool) (T : TypeId) (sz : Nat) (xs : List IV) : renMO σ (.row m T sz xs) = .row m T sz xs := rfl
@[go_sem] theorem renMO_var (σ : Nat → Nat) (T : TypeId) (cs : List AV) : renMO σ (.var T cs) = .var T (rens σ cs) := rfl
@[go_sem] theorem renMO_map (σ : Nat → Nat) (m : Bool) (ks : List IV) (vs : List AV) : renMO σ (.obj (.map m ks vs)) = .obj (.map m ks (rens σ vs)) := rfl
@[go_sem] theorem renMO_miter (σ : Nat → Nat) (x : AV) (n : Nat) (sn : List Nat) : renMO σ (.obj (.miter x n sn)) = .obj (.miter (ren σ x) n sn) := rfl
@[go_sem] theorem renMO_siter (σ : Nat → Nat) (s : ByteArray) (n : Nat) : renMO σ (.obj (.siter s n)) = .obj (.siter s n) := rfl
@[go_sem] theorem sg_nil (m i : Nat) : sg [] m i = m + i := by simp [sg]
@[go_sem] theorem sg_zero (j : Nat) (l : List Nat) (m : Nat) : sg (j :: l) m 0 = j := rfl
@[go_sem] theorem sg_one (j j' : Nat) (l : List Nat) (m : Nat) : sg (j :: j' :: l) m 1 = j' := rfl
@[go_sem] theorem sg_two (j j' j2 : Nat) (l : List Nat) (m : Nat) : sg (j :: j' :: j2 :: l) m 2 = j2 := rfl
@[go_sem] theorem sg_three (j j' j2 j3 : Nat) (l : List Nat) (m : Nat) : sg (j :: j' :: j2 :: j3 :: l) m 3 = j3 := rfl
@[go_sem] theorem sg_four (j j' j2 j3 j4 : Nat) (l : List Nat) (m : Nat) : sg (j :: j' :: j2 :: j3 :: j4 :: l) m 4 = j4 := rfl
@[go_sem] theorem sg_new1 (j m i : Nat) : sg [j] m (i + 1) = m + i := by simp [sg]
@[go_sem] theorem sg_new2 (j j' m i : Nat) : sg [j, j'] m (i + 2) = m + i := by simp [sg]
@[go_sem] theorem sg_new3 (j j' j2 m i : Nat) : sg [j, j', j2] m (i + 3) = m + i := by simp [sg]
@[go_sem] theorem sg_new4 (j j' j2 j3 m i : Nat) : sg [j, j', j2, j3] m (i + 4) = m + i := by simp [sg]
attribute [go_sem] backM setAll calleeOf
end

/-! ### a call with memory, from here -/
section
variable {P : Program} {ops : List Oper} {Q : St → Prop} {s : St} {o : Oper} {rest : List Oper}
def callMK (o : Oper) (l : List Nat) (f : Nat) (xs : List AV) (Ml : List MO) (s : St) : Prop := match o.op with
  | .call c => match c.callee with
    | .value x => match calleeOf (s.ev x) with
      | some (g, caps) => g = f ∧ c.args.toList.map s.ev ++ caps = rens (sg l s.M.length) xs ∧ ndR l = true ∧ PartR s.M (sg l s.M.length) l Ml
      | none => False
    | _ => False
  | _ => False
theorem left_callMw {f : Nat} {xs : List AV} {Ml M' : List MO} {r : AV} (s1 : St) (l : List Nat) (h : MCalls P f xs Ml r M') (hw : Wk s s1) (hc : callMK o l f xs Ml s1)
    (hk : run P ops rest (fun s l => left P ops Q s l) ({ s1 with M := backM s1.M l M' }.put o.dst (ren (sg l s1.M.length) r))) : left P ops Q s (o :: rest) := by
  unfold callMK at hc
  split at hc
  · rename_i c ho
    split at hc
    · rename_i x hx
      split at hc
      · rename_i g caps hg
        obtain ⟨rfl, h1, h2, h3⟩ := hc
        exact left_callM l hw h ho hx hg h1 (Part.ofR h2 h3) hk
      · exact hc.elim
    · exact hc.elim
  · exact hc.elim
theorem left_callRs {f : Nat} {xs : List AV} {Ml : List MO} {R : AV → List MO → Prop} (l : List Nat) (h : RCalls P f xs Ml R) (hc : callMK o l f xs Ml s)
    (hk : ∀ r M', R r M' → run P ops rest (fun s l => left P ops Q s l) ({ s with M := backM s.M l M' }.put o.dst (ren (sg l s.M.length) r))) : left P ops Q s (o :: rest) := by
  unfold callMK at hc
  split at hc
  · rename_i c ho
    split at hc
    · rename_i x hx
      split at hc
      · rename_i g caps hg
        obtain ⟨rfl, h1, h2, h3⟩ := hc
        exact left_callR l (Wk.refl s) h ho hx hg h1 (Part.ofR h2 h3) hk
      · exact hc.elim
    · exact hc.elim
  · exact hc.elim
theorem left_callMs {f : Nat} {xs : List AV} {Ml M' : List MO} {r : AV} (l : List Nat) (h : MCalls P f xs Ml r M') (hc : callMK o l f xs Ml s)
    (hk : run P ops rest (fun s l => left P ops Q s l) ({ s with M := backM s.M l M' }.put o.dst (ren (sg l s.M.length) r))) : left P ops Q s (o :: rest) := left_callMw s l h (Wk.refl s) hc hk
end

/-! ### an empty row has no elements' size -/
def Sq (x y : IV) : Prop := ∀ (E : Nat → Prop) (w : World) (v : Value), RepI E w x v → RepI E w y v
theorem Sq.refl (x : IV) : Sq x x := fun _ _ _ h => h
theorem Sq.trans {x y z : IV} (h : Sq x y) (k : Sq y z) : Sq x z := fun E w v hv => k E w v (h E w v hv)
theorem Sq.of_eq {x y : IV} (h : x = y) : Sq x y := h ▸ Sq.refl x
theorem Sq.nil (a b : Nat) : Sq (.sl a []) (.sl b []) := by
  intro E w v h
  generalize hx : IV.sl a [] = x at h
  cases h <;> cases hx
  · exact .sl0 _ _ _
  · rename_i bl o c u hc hE hb hs hu hr
    exact .sl0 b _ _
def Sqs : List IV → List IV → Prop
  | [], [] => True
  | x :: l, y :: k => Sq x y ∧ Sqs l k
  | _, _ => False
theorem Sqs.get : ∀ {l k : List IV}, Sqs l k → l.length = k.length ∧ ∀ (i : Nat) (x y : IV), l[i]? = some x → k[i]? = some y → Sq x y
  | [], [], _ => ⟨rfl, by simp⟩
  | x :: l, y :: k, h => by
    obtain ⟨h1, h2⟩ := Sqs.get h.2
    refine ⟨by simp [h1], fun i x' y' hx hy => ?_⟩
    cases i with
    | zero => simp at hx hy; subst hx hy; exact h.1
    | succ i => exact h2 i x' y' (by simpa using hx) (by simpa using hy)
  | [], _ :: _, h => h.elim
  | _ :: _, [], h => h.elim
theorem Sq.agg {l k : List IV} (h : Sqs l k) : Sq (.agg l) (.agg k) := by
  intro E w v hv
  obtain ⟨vs, rfl, h1, h2⟩ := inv_rep_agg hv
  obtain ⟨h3, h4⟩ := h.get
  refine .agg _ _ (by omega) (fun i y z hy hz => ?_)
  have hi := lt_of_get hy
  have hx : l[i]? = some (l[i]'(by omega)) := List.getElem?_eq_getElem (by omega)
  exact h4 i _ y hx hy E w z (h2 i _ z hx hz)
theorem Sq.tup {l k : List IV} (h : Sqs l k) : Sq (.tup l) (.tup k) := by
  intro E w v hv
  obtain ⟨vs, rfl, h1, h2⟩ := inv_rep_tup hv
  obtain ⟨h3, h4⟩ := h.get
  refine .tup _ _ (by omega) (fun i y z hy hz => ?_)
  have hi := lt_of_get hy
  have hx : l[i]? = some (l[i]'(by omega)) := List.getElem?_eq_getElem (by omega)
  exact h4 i _ y hx hy E w z (h2 i _ z hx hz)
theorem PCalls.args {P : Program} {f : Nat} {args args' : List IV} {r : IV} (h : PCalls P f args r) (ha : Sqs args' args) : PCalls P f args' r := by
  obtain ⟨hl, hg⟩ := ha.get
  refine ⟨h.1, fun w E vs h1 h2 h3 => h.2 w E vs (by omega) (fun i x v hx hv => ?_) h3⟩
  have hi := lt_of_get hx
  have hy : args'[i]? = some (args'[i]'(by omega)) := List.getElem?_eq_getElem (by omega)
  exact hg i _ x hy hx _ _ _ (h2 i _ v hy hv)
def postS (P : Program) (rs : List ResultVar) (r : IV) : Exit → St → Prop
  | .normal, s => ∃ r0, retV P rs s = some r0 ∧ Sq r0 r
  | .ret, s => ∃ r0, retV P rs s = some r0 ∧ Sq r0 r
  | _, _ => False
theorem PCalls.of_awS {P : Program} {f : Nat} {fn : Func} {c : Code} {args : List IV} {r : IV} (hf : P.funcs[f]? = some fn) (hb : fn.body = some c) (hc : Callable P f) (hn : bnd true fn.ntmps c = true) (hl : args.length ≤ fn.ntmps)
    (h : aw P c (postS P fn.results.toList r) ⟨fn.ntmps, argsT args 0, [], 0⟩) : PCalls P f args r := by
  refine ⟨hc, fun w E vs hvl hargs hE => ?_⟩
  have hmem : MemOk E (fun _ => False) w [] (fun _ => none) w := {
    obj := by intro k o hk; simp at hk
    inj := by intro k k' b hk; simp at hk
    own := by intro k b hk; simp at hk
    keep := Keep.refl _ _
    ext := hE }
  have hsim : Sim E (fun _ => False) w (fun _ _ => False) ⟨fn.ntmps, argsT args 0, [], 0⟩ (fun _ => none) { tmps := vs.toArray ++ Array.replicate (fn.ntmps - vs.toArray.size) undef, defers := [] } w := {
    size := by simp; omega
    defers := Dfr.nil _ _ _ _
    tm := by
      intro i
      show RepA [] (fun _ => none) (excl E [] fun _ => none) w (argsT args 0 i) _
      rw [argsT_get, if_pos (Nat.zero_le _), Nat.sub_zero]
      cases hx : args[i]? with
      | none => exact .any _
      | some x =>
        have hi := lt_of_get hx
        have hv : vs[i]? = some (vs[i]'(by omega)) := List.getElem?_eq_getElem (by omega)
        have h1 := hargs i x _ hx hv
        have h2 : (vs.toArray ++ Array.replicate (fn.ntmps - vs.toArray.size) undef).getD i undef = vs[i]'(by omega) := by
          rw [Array.getD_eq_getD_getElem?, Array.getElem?_append_left (by simp; omega)]
          simp [hv]
        rw [h2]
        exact .iv _ _ (h1.mono ⟨Nat.le_refl _, fun b _ hb => ⟨rfl, by
          rintro (hX | ⟨k, o, hk, _⟩)
          · exact hb hX
          · simp at hk⟩⟩)
    mem := hmem
    fr := fun _ _ h => h.elim }
  refine calls_of_marks hf hb (wpIn_mono (h none hn E _ w _ _ _ w hsim) ?_)
  rintro e a' w' ⟨s', ρ', hn', hs', hq⟩
  have fin : ∀ (a' : Act) (w' : World), Sim E (fun _ => False) w (fun _ _ => False) s' ρ' a' w' → (∃ r0, retV P fn.results.toList s' = some r0 ∧ Sq r0 r) → ∃ v, (results fn a'.tmps).run P w' = .ok v w' ∧ ∃ u, Ending.returned v = .returned u ∧ RepI E w' r u ∧ Below w.heap.size w w' := by
    rintro a' w' hs' ⟨r0, hr, hsq⟩
    obtain ⟨v, h1, h2⟩ := retV_sound hs' hr
    exact ⟨v, h1, v, rfl, hsq _ _ _ h2, hs'.mem.keep.below⟩
  cases e with
  | normal => exact hs'.leaves (fun w1 hs1 => fin { a' with defers := [] } w1 hs1 hq)
  | ret => exact hs'.leaves (fun w1 hs1 => fin { a' with defers := [] } w1 hs1 hq)
  | exit i => exact hq.elim
  | goto i => exact hq.elim
  | panic c => exact hq.elim
  | outgrown => exact hq.elim
attribute [go_sem] callMK postS Sqs
@[go_sem] theorem exists_some (x r : IV) : (∃ r0, some x = some r0 ∧ Sq r0 r) = Sq x r := by simp

/-! ### calls by a function's number -/
section
variable {P : Program} {ops : List Oper} {Q : St → Prop} {s : St} {o : Oper} {rest : List Oper} {f : Nat} {args : List Operand} {ts : Array TypeId} {ys : List IV} {r : IV} {M' : List MO}
theorem left_callf (ho : o.op = .call ⟨.value (.func f), args.toArray, ts⟩) (ha : ivs (args.map s.ev) = some ys) (h : PCalls P f ys r) (hk : run P ops rest (fun s l => left P ops Q s l) (s.put o.dst (.iv r))) : left P ops Q s (o :: rest) :=
  left_call ho rfl rfl ha h hk
theorem left_callfF (ho : o.op = .call ⟨.value (.func f), args.toArray, ts⟩) (ha : argsF s.M (args.map s.ev) = some (ys, M')) (h : PCalls P f ys r) (hk : run P ops rest (fun s l => left P ops Q s l) ({ s with M := M' }.put o.dst (.iv r))) : left P ops Q s (o :: rest) :=
  left_callF ho rfl rfl ha h hk
end

end Go.Proofs.YtpjncojljamacaaGreat.AM
