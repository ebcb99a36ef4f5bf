-- Ranges over functions: a round is walked like a call's body.
import Derived.Test.YtpjncojljamacaaGreatAC
import Derived.RangeFuncNested
set_option linter.unusedVariables false
set_option linter.unusedSimpArgs false
namespace Go.Proofs.YtpjncojljamacaaGreat.AM
open Go Go.RowKit

section
variable {P : Program} {X O : Nat → Prop} {w0 : World} {F : AV → Value → Prop} {s : St} {ρ : Nat → Option Nat} {a : Act} {w : World}

theorem marks_inj : ∀ {l l' : List Nat}, marks l = marks l' → l = l'
  | [], [], _ => rfl
  | [], _ :: _, h => by simp [marks] at h
  | _ :: _, [], h => by simp [marks] at h
  | a :: l, b :: l', h => by
    simp only [marks, List.map_cons, List.cons.injEq, Deferred.mk.injEq, Target.collected.injEq] at h
    rw [h.1.1, marks_inj h.2]

def Mine (M : List MO) (ρ : Nat → Option Nat) (a : Act) (b : Nat) : Prop := blocks M ρ b ∨ ∃ l, a.defers = marks l ∧ b ∈ l
theorem Mine.old (hs : Sim X O w0 F s ρ a w) {b : Nat} (h : Mine s.M ρ a b) : ¬ X b ∧ (O b ∨ w0.heap.size ≤ b) := by
  rcases h with ⟨k, hk, hb⟩ | ⟨l, hl, hb⟩
  · exact hs.mem.own k b hk hb
  · obtain ⟨l', h1, _, h3⟩ := hs.defers
    rw [h1] at hl
    have := marks_inj hl
    subst this
    exact ⟨(h3 b hb).1, (h3 b hb).2.1⟩
end
/-! ### regions whose list literals are never written: the rules -/
section
variable {P : Program} {d : Option Tmp} {ty : TypeId} {pos : String} {af : Array Edge} {g : Option (Nat × Bool)} {ev : Operand → AV} {M : List MO}
def cwF (o : Oper) : Cls := match o.dst with
  | some k => if k = 1000001 then .r else if k = 1000002 then .w else .p
  | none => .p
theorem effF_bs (t : TypeId) (len : Nat) (parts : List (Nat × Operand)) : effF P ⟨d, .buildSlice t len parts.toArray, ty, pos, af, g⟩ ev M = (tElem P t).bind fun e => (constIV e.zero).bind fun z =>
      if len * e.sz ≤ 16777216 ∧ z.fits e.sz = true then
        (partsI (parts.map fun (i, x) => (i, ev x))).bind fun ps =>
          if ps.all (fun p => p.2.fits e.sz) then (fillRow (List.replicate len z) ps).map fun xs => (.p, .iv (.sl e.sz xs), M) else none
      else none := by
  simp only [effF, isBS, if_true, bfz]
  cases tElem P t with
  | none => rfl
  | some e =>
    simp only [Option.bind_some]
    cases constIV e.zero with
    | none => rfl
    | some z =>
      simp only [Option.bind_some]
      split
      · cases partsI (parts.map fun (i, x) => (i, ev x)) with
        | none => rfl
        | some ps =>
          simp only [Option.bind_some]
          split
          · rw [Option.map_map]; rfl
          · rfl
      · rfl
@[go_sem] theorem effF_def (o : Op) : effF P ⟨d, o, ty, pos, af, g⟩ ev M = (match o with
    | .buildSlice t len parts => (tElem P t).bind fun e => (constIV e.zero).bind fun z =>
      if len * e.sz ≤ 16777216 ∧ z.fits e.sz = true then
        (partsI (parts.toList.map fun (i, x) => (i, ev x))).bind fun ps =>
          if ps.all (fun p => p.2.fits e.sz) then (fillRow (List.replicate len z) ps).map fun xs => (.p, .iv (.sl e.sz xs), M) else none
      else none
    | o => eff P ⟨d, o, ty, pos, af, g⟩ ev M) := by
  cases o with
  | buildSlice t len parts =>
    obtain ⟨parts⟩ := parts
    exact effF_bs t len parts
  | _ => rfl
end
attribute [go_sem] partsI ivn
theorem aw_postE {P : Program} {c y : Code} {id : Nat} {Q Q' : Exit → St → Prop} {s : St} {β : Type} (E : β → St) (J : β → Prop) (h : aw P c (blockQ id (thenQ (fun s' => ∃ z, J z ∧ Wk s' (E z)) Q')) s) (k : ∀ z, J z → aw P y Q (E z)) :
    aw P c (blockQ id (thenQ (aw P y Q) Q')) s := by
  refine aw_mono h (fun e s' hq => ?_)
  cases e with
  | normal => obtain ⟨z, h1, h2⟩ := hq; exact aw_wk h2 (k z h1)
  | exit i =>
    simp only [blockQ] at hq ⊢
    split
    · rename_i hi
      rw [if_pos hi] at hq
      obtain ⟨z, h1, h2⟩ := hq; exact aw_wk h2 (k z h1)
    · rename_i hi
      rw [if_neg hi] at hq
      exact hq
  | goto i => exact hq
  | ret => exact hq
  | panic c => exact hq
  | outgrown => exact hq
theorem aw_cutE {P : Program} {c y : Code} {Q : Exit → St → Prop} {s : St} {β : Type} (E : β → St) (J : β → Prop) (h : aw P c (thenQ (fun s' => ∃ z, J z ∧ Wk s' (E z)) Q) s) (k : ∀ z, J z → aw P y Q (E z)) : aw P (.seq c y) Q s := by
  refine aw_seq (aw_mono h (fun e s' hq => ?_))
  cases e with
  | normal => obtain ⟨z, h1, h2⟩ := hq; exact aw_wk h2 (k z h1)
  | exit i => exact hq
  | goto i => exact hq
  | ret => exact hq
  | panic c => exact hq
  | outgrown => exact hq
end Go.Proofs.YtpjncojljamacaaGreat.AM
