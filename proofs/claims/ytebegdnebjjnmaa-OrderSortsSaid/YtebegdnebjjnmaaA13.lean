
/- The abstract machine, 13: states, steps, calls without memory; a region in the text's order. No condition. -/
import Derived.Test.YtebegdnebjjnmaaA12S
set_option linter.unusedVariables false
set_option linter.unusedSimpArgs false
namespace Go.Proofs.Ytebegdnebjjnmaa.AM
open Go Go.RowKit

/-! ### states -/
def upd (t : Nat → AV) (d : Nat) (v : AV) : Nat → AV := fun i => if i = d then v else t i
theorem upd_same (t : Nat → AV) (d : Nat) (v : AV) : upd t d v d = v := by simp [upd]
theorem upd_ne (t : Nat → AV) {d i : Nat} (v : AV) (h : i ≠ d) : upd t d v i = t i := by simp [upd, h]
def St.put (s : St) (d : Option Nat) (v : AV) : St := match d with
  | none => s
  | some d => { s with t := upd s.t d v }
def St.ev (s : St) : Operand → AV
  | .tmp i => s.t i
  | .const v => constAV v
  | .func f => .iv (.fnc f)
  | .global _ => .any
/-- Is an operation wanted? -/
def St.want (ops : List Oper) (s : St) (o : Oper) : Option Bool := match o.guard with
  | none => some true
  | some (j, w) => match (ops[j]?).bind (·.dst) with
    | some d => match s.t d with
      | .iv (.bool b) => some (b == w)
      | .iv (.tup []) => some false
      | _ => none
    | none => none

section
variable {P : Program} {X O : Nat → Prop} {w0 : World} {F : AV → Value → Prop} {s : St} {ρ : Nat → Option Nat} {a : Act} {w : World}

theorem Sim.ev (h : Sim X O w0 F s ρ a w) (x : Operand) : RepA s.M ρ (excl X s.M ρ) w (s.ev x) (a.eval x) := by
  cases x with
  | tmp t => exact h.tm t
  | const v => exact rep_constAV v
  | func f => exact .iv _ _ (.fnc f)
  | global g => exact .any _

theorem put_tmps (a : Act) (d : Option Nat) (v : Value) : (a.put d v).tmps = match d with | none => a.tmps | some d => a.tmps.setIfInBounds d v := by cases d <;> rfl

/-- A step's end: the value goes to its slot. -/
theorem Sim.put {M' : List MO} {ρ' : Nat → Option Nat} {w' : World} (h : Sim X O w0 F s ρ a w) (hm : MemOk X O w0 M' ρ' w') (hev : Evo s.M M' ρ ρ' (excl X s.M ρ) (excl X M' ρ') w w') {d : Option Nat} (hd : ∀ x, d = some x → x < s.n) {v : AV} {u : Value}
    (hv : RepA M' ρ' (excl X M' ρ') w' v u) : Sim X O w0 F ({ s with M := M' }.put d v) ρ' (a.put d u) w' := by
  cases d with
  | none => exact ⟨h.size, h.defers, fun i => (h.tm i).mono hev, hm, fun x u hx => ⟨(h.fr x u hx).1, (h.fr x u hx).2.mono hev⟩⟩
  | some d =>
    refine ⟨?_, h.defers, fun i => ?_, hm, fun x u hx => ⟨(h.fr x u hx).1, (h.fr x u hx).2.mono hev⟩⟩
    · show (a.tmps.setIfInBounds d u).size = s.n
      rw [Array.size_setIfInBounds]; exact h.size
    · show RepA M' ρ' (excl X M' ρ') w' (upd s.t d v i) ((a.tmps.setIfInBounds d u).getD i undef)
      have hlt : d < a.tmps.size := by rw [h.size]; exact hd d rfl
      by_cases e : i = d
      · subst e
        rw [upd_same, Array.getD_eq_getD_getElem?, Array.getElem?_setIfInBounds_self_of_lt hlt]
        exact hv
      · rw [upd_ne _ _ e, Array.getD_eq_getD_getElem?, Array.getElem?_setIfInBounds_ne (Ne.symm e), ← Array.getD_eq_getD_getElem?]
        exact (h.tm i).mono hev

/-- The same, where what was known is known still. -/
theorem Sim.put' {M' : List MO} {ρ' : Nat → Option Nat} {w' : World} (h : Sim X O w0 F s ρ a w) (hm : MemOk X O w0 M' ρ' w') (hev : Keeps s.M M' ρ ρ' (excl X s.M ρ) (excl X M' ρ') w w') {d : Option Nat} (hd : ∀ x, d = some x → x < s.n) {v : AV} {u : Value}
    (hv : RepA M' ρ' (excl X M' ρ') w' v u) : Sim X O w0 F ({ s with M := M' }.put d v) ρ' (a.put d u) w' := by
  cases d with
  | none => exact ⟨h.size, h.defers, fun i => hev _ _ (h.tm i), hm, fun x u hx => ⟨(h.fr x u hx).1, hev _ _ (h.fr x u hx).2⟩⟩
  | some d =>
    refine ⟨?_, h.defers, fun i => ?_, hm, fun x u hx => ⟨(h.fr x u hx).1, hev _ _ (h.fr x u hx).2⟩⟩
    · show (a.tmps.setIfInBounds d u).size = s.n
      rw [Array.size_setIfInBounds]; exact h.size
    · show RepA M' ρ' (excl X M' ρ') w' (upd s.t d v i) ((a.tmps.setIfInBounds d u).getD i undef)
      have hlt : d < a.tmps.size := by rw [h.size]; exact hd d rfl
      by_cases e : i = d
      · subst e
        rw [upd_same, Array.getD_eq_getD_getElem?, Array.getElem?_setIfInBounds_self_of_lt hlt]
        exact hv
      · rw [upd_ne _ _ e, Array.getD_eq_getD_getElem?, Array.getElem?_setIfInBounds_ne (Ne.symm e), ← Array.getD_eq_getD_getElem?]
        exact hev _ _ (h.tm i)

theorem want_sound {ops : Array Oper} (h : Sim X O w0 F s ρ a w) {o : Oper} {b : Bool} (hw : s.want ops.toList o = some b) : Region.wanted o (yielded ops a.tmps) = b := by
  unfold St.want at hw
  unfold Region.wanted
  split at hw
  · rename_i hg; rw [hg]; cases hw; rfl
  · rename_i j w' hg
    rw [hg]
    split at hw
    · rename_i d hd
      split at hw
      · rename_i b' hb
        cases hw
        have h1 := h.tm d
        rw [hb] at h1
        have h2 := inv_bool h1
        have h3 : a.tmps[d]? = some (.bool b') := by
          rw [Array.getD_eq_getD_getElem?] at h2
          cases ht : a.tmps[d]? with
          | none => rw [ht] at h2; cases h2
          | some v => rw [ht] at h2; simp at h2; rw [h2]
        simp only [yielded]
        rw [← Array.getElem?_toList, hd]
        simp only [Option.bind_some, h3]
        cases b' <;> cases w' <;> rfl
      · rename_i hb
        cases hw
        have h1 := h.tm d
        rw [hb] at h1
        have h2 : a.tmps.getD d undef = .tuple #[] := by
          cases h1 with
          | iv _ _ h1 =>
            generalize a.tmps.getD d undef = u at h1
            cases h1 with
            | tup _ vs hl _ =>
              have : vs = #[] := Array.eq_empty_of_size_eq_zero hl
              rw [this]
        simp only [yielded]
        rw [← Array.getElem?_toList, hd]
        simp only [Option.bind_some]
        cases ht : a.tmps[d]? with
        | none => cases w' <;> rfl
        | some v =>
          rw [Array.getD_eq_getD_getElem?, ht] at h2
          simp at h2
          subst h2
          cases w' <;> rfl
      · cases hw
    · cases hw

end

/-! ### calls -/
/-- A function with a body of its own. -/
def Callable (P : Program) (f : Nat) : Prop := (match P.funcs[f]? with
  | some fn => !(fn.name == "runtime.NumGoroutine") && fn.body.isSome
  | none => false) = true

theorem run_callFunc {P : Program} {f : Nat} (h : Callable P f) (args : Array Value) (w : World) : (callFunc f args).run P w = .ok (.enter f args) w := by
  unfold Callable at h
  cases hf : P.funcs[f]? with
  | none => rw [hf] at h; cases h
  | some fn =>
    rw [hf] at h
    simp only [Bool.and_eq_true, Bool.not_eq_true'] at h
    obtain ⟨h1, h2⟩ := h
    have h3 : fn.body ≠ none := by intro e; rw [e] at h2; cases h2
    have h4 : fn.name ≠ "runtime.NumGoroutine" := by simpa using h1
    simp [callFunc, hf, h4, h3]

/-- A call by values without memory: it comes back with r, and all that was there is as it was. -/
def PCalls (P : Program) (f : Nat) (args : List IV) (r : IV) : Prop :=
  Callable P f ∧ ∀ (w : World) (E : Nat → Prop) (vs : List Value), vs.length = args.length → (∀ (i : Nat) (x : IV) (v : Value), args[i]? = some x → vs[i]? = some v → RepI E w x v) → (∀ b, E b → b < w.heap.size) →
    Calls P f vs.toArray w (fun e w' => ∃ v, e = .returned v ∧ RepI E w' r v ∧ Below w.heap.size w w')

/-- Values with the rows that they name frozen. -/
def argsF (M : List MO) : List AV → Option (List IV × List MO)
  | [] => some ([], M)
  | x :: l => (toIVF M x).bind fun (y, M') => (argsF M' l).map fun (ys, M'') => (y :: ys, M'')

section
variable {P : Program} {X O : Nat → Prop} {w0 : World} {F : AV → Value → Prop} {s : St} {ρ : Nat → Option Nat} {a : Act} {w : World}

theorem argsF_sound : ∀ (l : List AV) {M M' : List MO} {ys : List IV} (hm : MemOk X O w0 M ρ w) (vs : List Value) (hl : vs.length = l.length)
    (hx : ∀ (i : Nat) (x : AV) (v : Value), l[i]? = some x → vs[i]? = some v → RepA M ρ (excl X M ρ) w x v) (h : argsF M l = some (ys, M')),
    FreezeOk X O w0 M ρ w M' ∧ ys.length = l.length ∧ ∀ (i : Nat) (y : IV) (v : Value), ys[i]? = some y → vs[i]? = some v → RepI (excl X M' ρ) w y v
  | [], M, M', ys, hm, vs, hl, hx, h => by
    simp [argsF] at h; obtain ⟨rfl, rfl⟩ := h
    exact ⟨⟨hm, Evo.refl _ _ _ _, rfl⟩, rfl, by simp⟩
  | x :: l, M, M', ys, hm, vs, hl, hx, h => by
    cases vs with
    | nil => simp at hl
    | cons v vs =>
    simp only [argsF] at h
    obtain ⟨⟨y, M1⟩, h1, h⟩ := option_bind_some h
    obtain ⟨⟨ys', M2⟩, h2, h⟩ := option_map_some h
    cases h
    obtain ⟨hf, hy, _⟩ := toIVF_sound hm (hx 0 x v rfl rfl) h1
    obtain ⟨hf2, hl2, hy2⟩ := argsF_sound l hf.1 vs (by simpa using hl) (fun i x v h3 h4 => (hx (i + 1) x v h3 h4).mono hf.2.1) h2
    refine ⟨hf.trans hf2, by simp [hl2], fun i y' v' h3 h4 => ?_⟩
    cases i with
    | zero => simp at h3 h4; subst h3 h4; exact hy.mono hf2.2.1.stay
    | succ i => exact hy2 i y' v' (by simpa using h3) (by simpa using h4)

theorem excl_lt {M : List MO} (hm : MemOk X O w0 M ρ w) : ∀ b, excl X M ρ b → b < w.heap.size := by
  rintro b (hX | ⟨k, o, hk, hmut, hρ⟩)
  · exact hm.ext b hX
  · exact hm.lt (lt_of_get hk) hρ

theorem Keep.step {O : Nat → Prop} {w0 w w' : World} (h : Keep O w0 w) (k : Below w.heap.size w w') : Keep O w0 w' :=
  ⟨k.os.trans h.os, k.tape.trans h.tape, k.output.trans h.output, Nat.le_trans h.size k.size, fun b hb hO => (k.block b (Nat.lt_of_lt_of_le hb h.size)).trans (h.block b hb hO)⟩

/-- A value that leads nowhere. -/
def IV.flat : IV → Bool
  | .bool _ => true
  | .int _ _ => true
  | .str _ => true
  | .nilp => true
  | .fnc _ => true
  | _ => false
theorem flat_any {E E' : Nat → Prop} {w w' : World} {x : IV} {v : Value} (h : RepI E w x v) (hf : x.flat = true) : RepI E' w' x v := by
  cases h with
  | bool b => exact .bool b
  | int k n => exact .int k n
  | str s => exact .str s
  | nilp => exact .nilp
  | fnc f => exact .fnc f
  | _ => cases hf

end

/-- What is known of s is known of s'. -/
def Wk (s s' : St) : Prop := s'.n = s.n ∧ ∀ (X O : Nat → Prop) (w0 : World) (F : AV → Value → Prop) (ρ : Nat → Option Nat) (a : Act) (w : World), Sim X O w0 F s ρ a w → ∃ ρ', Sim X O w0 F s' ρ' a w
theorem Wk.refl (s : St) : Wk s s := ⟨rfl, fun _ _ _ _ ρ _ _ h => ⟨ρ, h⟩⟩
theorem Wk.trans {s s' s'' : St} (h : Wk s s') (k : Wk s' s'') : Wk s s'' := ⟨k.1.trans h.1, fun X O w0 F ρ a w hs => by
  obtain ⟨ρ', h1⟩ := h.2 X O w0 F ρ a w hs
  exact k.2 X O w0 F ρ' a w h1⟩

/-- What is called: a function, and the values that it was made with. -/
def calleeOf : AV → Option (Nat × List AV)
  | .iv (.fnc f) => some (f, [])
  | .fn f caps => some (f, caps)
  | _ => none

/-- A call that has the objects M: it comes back with r, and M' is what it leaves of them (those behind M's are new); all else is as it was. -/
def MCalls (P : Program) (f : Nat) (args : List AV) (M : List MO) (r : AV) (M' : List MO) : Prop :=
  Callable P f ∧ M.length ≤ M'.length ∧ ∀ (X : Nat → Prop) (w : World) (ρ : Nat → Option Nat) (vs : List Value), MemOk X (blocks M ρ) w M ρ w → vs.length = args.length →
    (∀ (i : Nat) (x : AV) (v : Value), args[i]? = some x → vs[i]? = some v → RepA M ρ (excl X M ρ) w x v) →
    Calls P f vs.toArray w (fun e w' => ∃ v ρ', e = .returned v ∧ MemOk X (blocks M ρ) w M' ρ' w' ∧ RepA M' ρ' (excl X M' ρ') w' r v ∧ Keeps M M' ρ ρ' (excl X M ρ) (excl X M' ρ') w w')

theorem inv_fn {M : List MO} {ρ : Nat → Option Nat} {E : Nat → Prop} {w : World} {f : Nat} {cs : List AV} {v : Value} (h : RepA M ρ E w (.fn f cs) v) : ∃ vs, v = .func (.func f) #[] vs ∧ vs.size = cs.length ∧ ∀ (i : Nat) (y : AV) (z : Value), cs[i]? = some y → vs[i]? = some z → RepA M ρ E w y z := by
  cases h with | fn _ _ vs hl h => exact ⟨vs, rfl, hl, h⟩

/-- One operation's step. -/
inductive OpStep (P : Program) (ops : List Oper) (o : Oper) : Cls → St → St → Prop
  | skip (s : St) (hw : s.want ops o = some false) : OpStep P ops o .p s (s.put o.dst (.iv (.tup [])))
  | eff (s : St) (c : Cls) (v : AV) (M' : List MO) (hw : s.want ops o = some true) (h : eff P o s.ev s.M = some (c, v, M')) : OpStep P ops o c s ({ s with M := M' }.put o.dst v)
  | call (s : St) (f : Nat) (c : Call) (x : Operand) (ys : List IV) (r : IV) (hw : s.want ops o = some true) (ho : o.op = .call c) (hc : c.callee = .value x) (hx : s.ev x = .iv (.fnc f))
      (ha : ivs (c.args.toList.map s.ev) = some ys) (h : PCalls P f ys r) : OpStep P ops o .p s (s.put o.dst (.iv r))
  | callF (s : St) (f : Nat) (c : Call) (x : Operand) (ys : List IV) (r : IV) (M' : List MO) (hw : s.want ops o = some true) (ho : o.op = .call c) (hc : c.callee = .value x) (hx : s.ev x = .iv (.fnc f))
      (ha : argsF s.M (c.args.toList.map s.ev) = some (ys, M')) (h : PCalls P f ys r) : OpStep P ops o .w s ({ s with M := M' }.put o.dst (.iv r))
  | callB (s : St) (f : Nat) (c : Call) (x : Operand) (ys : List IV) (r : IV) (M' : List MO) (hw : s.want ops o = some true) (ho : o.op = .call c) (hc : c.callee = .value x) (hx : s.ev x = .iv (.fnc f))
      (ha : argsF s.M (c.args.toList.map s.ev) = some (ys, M')) (h : PCalls P f ys r) (hr : r.flat = true) : OpStep P ops o .r s (s.put o.dst (.iv r))
  | callM (s s1 : St) (hwk : Wk s s1) (f : Nat) (caps : List AV) (c : Call) (x : Operand) (l : List Nat) (xs : List AV) (Ml M' : List MO) (r : AV) (hw : s.want ops o = some true) (ho : o.op = .call c) (hc : c.callee = .value x)
      (hx : calleeOf (s1.ev x) = some (f, caps)) (ha : c.args.toList.map s1.ev ++ caps = rens (sg l s1.M.length) xs) (hp : Part s1.M l Ml) (h : MCalls P f xs Ml r M') :
      OpStep P ops o .w s ({ s1 with M := backM s1.M l M' }.put o.dst (ren (sg l s1.M.length) r))

section
variable {P : Program} {X O : Nat → Prop} {w0 : World} {F : AV → Value → Prop} {s : St} {ρ : Nat → Option Nat} {a : Act} {w : World}

/-- What is asked of an operation in memory, a step having been told. -/
theorem opStep_sound {ops : Array Oper} {o : Oper} {c : Cls} {s' : St} (hst : OpStep P ops.toList o c s s') (hd : ∀ x, o.dst = some x → x < s.n) (hs : Sim X O w0 F s ρ a w) {K : Act → World → Prop} {Q : Exit → Act → World → Prop}
    (hK : ∀ a' w' ρ', Sim X O w0 F s' ρ' a' w' → K a' w') : if Region.wanted o (yielded ops a.tmps) then o.wp P a w K Q else K (a.put o.dst undef) w := by
  have callgen : ∀ (f : Nat) (c : Call) (x : Operand), o.op = .call c → c.callee = .value x → s.ev x = .iv (.fnc f) → Callable P f →
      (execOp a.eval o).run P w = .ok (.enter f (c.args.map a.eval)) w := by
    intro f c x ho hc hx hcall
    have hv := hs.ev x
    rw [hx] at hv
    have hv := inv_fnc hv
    simp only [execOp, ho, resolve, hc, hv, Deferred.ofValue]
    simp [invoke, run_callFunc hcall]
  cases hst with
  | skip _ hw =>
    rw [want_sound hs hw, if_neg (by simp)]
    exact hK _ _ ρ (by simpa using hs.put hs.mem (Evo.refl _ _ _ _) hd (.iv _ undef (.tup [] #[] rfl (by simp))))
  | eff _ _ v M' hw h =>
    rw [want_sound hs hw, if_pos rfl]
    obtain ⟨nx, u, w', ρ', h1, h2, h3, h4, h5⟩ := eff_sound (P := P) hs.mem o s.ev a.eval hs.ev (fun v => rfl) h
    have hfin := hK _ _ ρ' (hs.put h4 h5 hd h3)
    unfold Oper.wp
    rw [h1]
    rcases h2 with rfl | ⟨rfl, rfl⟩
    · exact hfin
    · exact hfin
  | call _ f c x ys r hw ho hc hx ha h =>
    rw [want_sound hs hw, if_pos rfl]
    obtain ⟨hcall, h⟩ := h
    unfold Oper.wp
    rw [callgen f c x ho hc hx hcall, Oper.upon_enter]
    have hys := ivs_spec ha
    have e1 : (c.args.map a.eval) = (c.args.toList.map a.eval).toArray := by rw [← Array.toList_map]
    rw [e1]
    refine (h w (excl X s.M ρ) (c.args.toList.map a.eval) (by have := congrArg List.length hys; simpa using this) (fun i y v hy hv => ?_) (excl_lt hs.mem)).mono (fun e w' hR => ?_)
    · obtain ⟨p, g1, rfl⟩ := map_get hv
      have : (c.args.toList.map s.ev)[i]? = some (.iv y) := by rw [hys, List.getElem?_map, hy]; rfl
      rw [List.getElem?_map, g1] at this
      have h2 := hs.ev p
      simp only [Option.map_some, Option.some.injEq] at this
      rw [this] at h2
      cases h2 with | iv _ _ h2 => exact h2
    · obtain ⟨v, rfl, hv, hb⟩ := hR
      have hm' := hs.mem.world (hs.mem.keep.step hb) hb.size (fun j hj => hb.block j hj)
      exact hK _ _ ρ (by simpa using hs.put hm' (Evo.world hb.size (fun j hj => hb.block j hj)) hd (.iv _ _ hv))
  | callF _ f c x ys r M' hw ho hc hx ha h =>
    rw [want_sound hs hw, if_pos rfl]
    obtain ⟨hcall, h⟩ := h
    unfold Oper.wp
    rw [callgen f c x ho hc hx hcall, Oper.upon_enter]
    have e1 : (c.args.map a.eval) = (c.args.toList.map a.eval).toArray := by rw [← Array.toList_map]
    rw [e1]
    obtain ⟨hf, hl, hy⟩ := argsF_sound (w := w) (c.args.toList.map s.ev) hs.mem (c.args.toList.map a.eval) (by simp) (args_rep hs.ev _) ha
    refine (h w (excl X M' ρ) (c.args.toList.map a.eval) (by rw [hl]; simp) hy (excl_lt hf.1)).mono (fun e w' hR => ?_)
    obtain ⟨v, rfl, hv, hb⟩ := hR
    have hm' := hf.1.world (hf.1.keep.step hb) hb.size (fun j hj => hb.block j hj)
    exact hK _ _ ρ (hs.put hm' (hf.2.1.trans (Evo.world hb.size (fun j hj => hb.block j hj))) hd (.iv _ _ hv))
  | callB _ f c x ys r M' hw ho hc hx ha h hr =>
    rw [want_sound hs hw, if_pos rfl]
    obtain ⟨hcall, h⟩ := h
    unfold Oper.wp
    rw [callgen f c x ho hc hx hcall, Oper.upon_enter]
    have e1 : (c.args.map a.eval) = (c.args.toList.map a.eval).toArray := by rw [← Array.toList_map]
    rw [e1]
    obtain ⟨hf, hl, hy⟩ := argsF_sound (w := w) (c.args.toList.map s.ev) hs.mem (c.args.toList.map a.eval) (by simp) (args_rep hs.ev _) ha
    refine (h w (excl X M' ρ) (c.args.toList.map a.eval) (by rw [hl]; simp) hy (excl_lt hf.1)).mono (fun e w' hR => ?_)
    obtain ⟨v, rfl, hv, hb⟩ := hR
    have hm' := hs.mem.world (hs.mem.keep.step hb) hb.size (fun j hj => hb.block j hj)
    exact hK _ _ ρ (by simpa using hs.put hm' (Evo.world hb.size (fun j hj => hb.block j hj)) hd (.iv _ _ (flat_any hv hr)))
  | callM _ s1 hwk f caps c x l xs Ml M' r hw ho hc hx ha hp h =>
    rw [want_sound hs hw, if_pos rfl]
    obtain ⟨hcall, hlen, h⟩ := h
    obtain ⟨ρ1, hs1⟩ := hwk.2 X O w0 F ρ a w hs
    -- the callee and what it was made with
    obtain ⟨cvs, hcv, hcl, hcr⟩ : ∃ cvs : Array Value, a.eval x = .func (.func f) #[] cvs ∧ cvs.size = caps.length ∧ ∀ (i : Nat) (y : AV) (z : Value), caps[i]? = some y → cvs[i]? = some z → RepA s1.M ρ1 (excl X s1.M ρ1) w y z := by
      have hv := hs1.ev x
      generalize s1.ev x = y at hv hx
      unfold calleeOf at hx
      split at hx
      · cases hx; exact ⟨#[], inv_fnc hv, rfl, by simp⟩
      · cases hx
        obtain ⟨vs, h1, h2, h3⟩ := inv_fn hv
        exact ⟨vs, h1, h2, h3⟩
      · cases hx
    have hrun : (execOp a.eval o).run P w = .ok (.enter f (c.args.map a.eval ++ cvs)) w := by
      simp only [execOp, ho, resolve, hc, hcv, Deferred.ofValue]
      simp [invoke, run_callFunc hcall]
    unfold Oper.wp
    rw [hrun, Oper.upon_enter]
    have e1 : (c.args.map a.eval ++ cvs) = (c.args.toList.map a.eval ++ cvs.toList).toArray := by simp [← Array.toList_map]
    rw [e1]
    have hlen2 : (c.args.toList.map a.eval ++ cvs.toList).length = xs.length := by
      have := congrArg List.length ha
      rw [rens_len] at this
      rw [← this]; simp [hcl]
    have hargs : ∀ (i : Nat) (y : AV) (v : Value), (c.args.toList.map s1.ev ++ caps)[i]? = some y → (c.args.toList.map a.eval ++ cvs.toList)[i]? = some v → RepA s1.M ρ1 (excl X s1.M ρ1) w y v := by
      intro i y v h1 h2
      rw [List.getElem?_append] at h1 h2
      simp only [List.length_map] at h1 h2
      split at h1
      · rename_i hi
        rw [if_pos hi] at h2
        exact args_rep hs1.ev _ i y v h1 h2
      · rename_i hi
        rw [if_neg hi] at h2
        exact hcr _ y v h1 (by simpa using h2)
    have hm := hs1.mem.part hp
    refine (h (othX X s1.M ρ1 l) w (partρ ρ1 l) (c.args.toList.map a.eval ++ cvs.toList) hm hlen2 (fun i y v h1 h2 => ?_)).mono (fun e w' hR => ?_)
    · rw [excl_part hp]
      exact (hargs i _ v (by rw [ha, rens_get, h1]; rfl) h2).part hp y rfl
    · obtain ⟨v, ρ', rfl, h1, h2, h3⟩ := hR
      rw [excl_part hp] at h3
      have hb : Back s1.M l M' (backM s1.M l M') ρ1 ρ' (backρ ρ1 ρ' l s1.M.length) := Back.mk' hp.nd (fun j hj => by
        obtain ⟨i, hi⟩ := List.getElem?_of_mem hj
        obtain ⟨o1, _, g1⟩ := hp.of hi
        exact lt_of_get g1) (by rw [← hp.len]; exact hlen)
      have hm2 := hs1.mem.back hp hb h1 h3
      have hE := excl_back (X := X) hp hb
      have hov : ∀ y u, RepA s1.M ρ1 (excl X s1.M ρ1) w y u → RepA (backM s1.M l M') (backρ ρ1 ρ' l s1.M.length) (excl X (backM s1.M l M') (backρ ρ1 ρ' l s1.M.length)) w' y u := by
        intro y u hy
        rw [hE]
        exact hy.over hp hs1.mem hb h1.keep h3
      exact hK _ _ _ (hs1.put' hm2 hov (fun d hd' => by rw [hwk.1]; exact hd d hd') (by rw [hE]; exact h2.back hb))

end

/-- The operations of a region, one behind the other. -/
def aops (P : Program) (ops : List Oper) : List Oper → (St → Prop) → St → Prop
  | [], K, s => K s
  | o :: rest, K, s => ∃ c s', OpStep P ops o c s s' ∧ aops P ops rest K s'

theorem put_n (s : St) (M' : List MO) (d : Option Nat) (v : AV) : ({ s with M := M' }.put d v).n = s.n := by cases d <;> rfl
theorem OpStep.n {P : Program} {ops : List Oper} {o : Oper} {c : Cls} {s s' : St} (h : OpStep P ops o c s s') : s'.n = s.n := by
  cases h with
  | skip => exact put_n s s.M _ _
  | eff => exact put_n s _ _ _
  | call => exact put_n s s.M _ _
  | callF => exact put_n s _ _ _
  | callB => exact put_n s s.M _ _
  | callM _ s1 hwk => exact (put_n s1 _ _ _).trans hwk.1

section
variable {P : Program} {X O : Nat → Prop} {w0 : World} {F : AV → Value → Prop} {s : St} {ρ : Nat → Option Nat} {a : Act} {w : World}

theorem aops_sound {ops : Array Oper} {K : St → Prop} {Q : Exit → Act → World → Prop} : ∀ (l : List Nat) (lo : List Oper) (s : St) (ρ : Nat → Option Nat) (a : Act) (w : World),
    l.map (fun i => ops[i]?) = lo.map some → (∀ o ∈ lo, ∀ x, o.dst = some x → x < s.n) → aops P ops.toList lo K s → Sim X O w0 F s ρ a w →
    (∀ s' ρ' a' w', Sim X O w0 F s' ρ' a' w' → K s' → Q .normal a' w') → wpOps P ops Q l a w
  | [], lo, s, ρ, a, w, hl, hd, h, hs, hQ => by
    cases lo with
    | nil => exact hQ _ _ _ _ hs h
    | cons => simp at hl
  | i :: l, lo, s, ρ, a, w, hl, hd, h, hs, hQ => by
    cases lo with
    | nil => simp at hl
    | cons o lo =>
      simp only [List.map_cons, List.cons.injEq] at hl
      obtain ⟨ho, hl⟩ := hl
      obtain ⟨c, s', hst, h⟩ := h
      have := opStep_sound (Q := Q) (K := wpOps P ops Q l) hst (hd o (by simp)) hs (fun a' w' ρ' hs' =>
        aops_sound l lo s' ρ' a' w' hl (fun o' ho' x hx => by rw [hst.n]; exact hd o' (by simp [ho']) x hx) h hs' hQ)
      simp only [wpOps, ho]
      split
      · rename_i hw; rw [if_pos hw] at this; exact .inl this
      · rename_i hw; rw [if_neg hw] at this; exact this

end

end Go.Proofs.Ytebegdnebjjnmaa.AM
