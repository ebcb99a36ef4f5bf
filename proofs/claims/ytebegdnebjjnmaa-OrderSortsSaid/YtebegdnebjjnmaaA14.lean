
/- The abstract machine, 14: what must hold of a piece of code, its rules; from a body to a call. No condition. -/
import Derived.Test.YtebegdnebjjnmaaA13
import Derived.Scope
set_option linter.unusedVariables false
set_option linter.unusedSimpArgs false
namespace Go.Proofs.Ytebegdnebjjnmaa.AM
open Go Go.RowKit

/-- All slots that are written are there. -/
def dstOk (n : Nat) (o : Oper) : Bool := match o.dst with
  | some d => decide (d < n)
  | none => true
def bnd (n : Nat) : Code → Bool
  | .region _ ops _ => ops.toList.all (dstOk n)
  | .seq a b => bnd n a && bnd n b
  | .cond _ a b => bnd n a && bnd n b
  | .block _ c => bnd n c
  | .loop c => bnd n c
  | .scope c => bnd n c
  | .rangeFunc _ _ a b => bnd n a && bnd n b
  | _ => true

def conc (X O : Nat → Prop) (w0 : World) (F : AV → Value → Prop) (n : Nat) (Q : Exit → St → Prop) (e : Exit) (a : Act) (w : World) : Prop := ∃ s ρ, s.n = n ∧ Sim X O w0 F s ρ a w ∧ Q e s

/-- A mark without a content: what it marks is not looked into when the machine is run. -/
structure Tok {α : Type} (a : α) : Type where
  dummy : Unit
/-- From state s the code ends in a state of Q. -/
def awT (P : Program) (c : Code) (Q : Exit → St → Prop) (_ : Tok (c, Q)) (s : St) : Prop :=
  bnd s.n c = true → ∀ (X O : Nat → Prop) (w0 : World) (F : AV → Value → Prop) (ρ : Nat → Option Nat) (a : Act) (w : World), Sim X O w0 F s ρ a w → c.wp P (conc X O w0 F s.n Q) a w

@[reducible] def aw (P : Program) (c : Code) (Q : Exit → St → Prop) (s : St) : Prop := awT P c Q ⟨()⟩ s

def thenQ (K : St → Prop) (Q : Exit → St → Prop) : Exit → St → Prop
  | .normal, s => K s
  | .exit i, s => Q (.exit i) s
  | .goto i, s => Q (.goto i) s
  | .ret, s => Q .ret s
  | .panic c, s => Q (.panic c) s
  | .outgrown, s => Q .outgrown s
def blockQ (id : Nat) (Q : Exit → St → Prop) : Exit → St → Prop
  | .normal, s => Q .normal s
  | .exit i, s => if i = id then Q .normal s else Q (.exit i) s
  | .goto i, s => Q (.goto i) s
  | .ret, s => Q .ret s
  | .panic c, s => Q (.panic c) s
  | .outgrown, s => Q .outgrown s
def scopeQ (Q : Exit → St → Prop) : Exit → St → Prop
  | .goto i, s => False
  | .normal, s => Q .normal s
  | .exit i, s => Q (.exit i) s
  | .ret, s => Q .ret s
  | .panic c, s => Q (.panic c) s
  | .outgrown, s => Q .outgrown s

section
variable {P : Program} {Q : Exit → St → Prop} {s : St}

theorem aw_mono {c : Code} {Q' : Exit → St → Prop} (h : aw P c Q s) (hq : ∀ e s', Q e s' → Q' e s') : aw P c Q' s :=
  fun hb X O w0 F ρ a w hs => wp_mono (h hb X O w0 F ρ a w hs) (fun e a' w' ⟨s', ρ', h1, h2, h3⟩ => ⟨s', ρ', h1, h2, hq _ _ h3⟩)

theorem aw_wk {c : Code} {s' : St} (hw : Wk s s') (h : aw P c Q s') : aw P c Q s := by
  intro hb X O w0 F ρ a w hs
  obtain ⟨ρ', h1⟩ := hw.2 X O w0 F ρ a w hs
  have := h (by rw [hw.1]; exact hb) X O w0 F ρ' a w h1
  rw [hw.1] at this
  exact this

theorem aw_skip (h : Q .normal s) : aw P .skip Q s := fun _ X O w0 F ρ a w hs => wp_skip ⟨s, ρ, rfl, hs, h⟩
theorem aw_label {l : Nat} (h : Q .normal s) : aw P (.label l) Q s := fun _ X O w0 F ρ a w hs => wp_label ⟨s, ρ, rfl, hs, h⟩
theorem aw_exit {i : Nat} (h : Q (.exit i) s) : aw P (.exit i) Q s := fun _ X O w0 F ρ a w hs => wp_exit ⟨s, ρ, rfl, hs, h⟩
theorem aw_ret (h : Q .ret s) : aw P .ret Q s := fun _ X O w0 F ρ a w hs => wp_ret ⟨s, ρ, rfl, hs, h⟩

theorem aw_seq {x y : Code} (h : aw P x (thenQ (aw P y Q) Q) s) : aw P (.seq x y) Q s := by
  intro hb X O w0 F ρ a w hs
  simp only [bnd, Bool.and_eq_true] at hb
  refine wp_seq (wp_mono (h hb.1 X O w0 F ρ a w hs) ?_)
  rintro e a' w' ⟨s', ρ', hn, h1, h2⟩
  cases e with
  | normal =>
    have := h2 (by rw [hn]; exact hb.2) X O w0 F ρ' a' w' h1
    rw [hn] at this
    exact this
  | exit i => exact ⟨s', ρ', hn, h1, h2⟩
  | goto i => exact ⟨s', ρ', hn, h1, h2⟩
  | ret => exact ⟨s', ρ', hn, h1, h2⟩
  | panic c => exact ⟨s', ρ', hn, h1, h2⟩
  | outgrown => exact ⟨s', ρ', hn, h1, h2⟩

theorem aw_cond {c : Operand} {x y : Code} {b : Bool} (hc : s.ev c = .iv (.bool b)) (h1 : b = true → aw P x Q s) (h2 : b = false → aw P y Q s) : aw P (.cond c x y) Q s := by
  intro hb X O w0 F ρ a w hs
  simp only [bnd, Bool.and_eq_true] at hb
  have hv := hs.ev c
  rw [hc] at hv
  refine wp_cond (inv_bool hv) ?_
  cases b with
  | true => exact h1 rfl hb.1 X O w0 F ρ a w hs
  | false => exact h2 rfl hb.2 X O w0 F ρ a w hs

theorem aw_block {i : Nat} {c : Code} (h : aw P c (blockQ i Q) s) : aw P (.block i c) Q s := by
  intro hb X O w0 F ρ a w hs
  refine wp_block (wp_mono (h hb X O w0 F ρ a w hs) ?_)
  rintro e a' w' ⟨s', ρ', hn, h1, h2⟩
  cases e with
  | normal => exact ⟨s', ρ', hn, h1, h2⟩
  | exit j =>
    show if j = i then _ else _
    by_cases e : j = i
    · rw [if_pos e]
      have h2 : if j = i then Q .normal s' else Q (.exit j) s' := h2
      rw [if_pos e] at h2; exact ⟨s', ρ', hn, h1, h2⟩
    · rw [if_neg e]
      have h2 : if j = i then Q .normal s' else Q (.exit j) s' := h2
      rw [if_neg e] at h2; exact ⟨s', ρ', hn, h1, h2⟩
  | goto i => exact ⟨s', ρ', hn, h1, h2⟩
  | ret => exact ⟨s', ρ', hn, h1, h2⟩
  | panic c => exact ⟨s', ρ', hn, h1, h2⟩
  | outgrown => exact ⟨s', ρ', hn, h1, h2⟩

theorem aw_scope {c : Code} (h : aw P c (scopeQ Q) s) : aw P (.scope c) Q s := by
  intro hb X O w0 F ρ a w hs
  refine wp_scope_straight (wp_mono (h hb X O w0 F ρ a w hs) ?_)
  rintro e a' w' ⟨s', ρ', hn, h1, h2⟩
  cases e with
  | normal => exact ⟨s', ρ', hn, h1, h2⟩
  | exit i => exact ⟨s', ρ', hn, h1, h2⟩
  | goto i => exact h2.elim
  | ret => exact ⟨s', ρ', hn, h1, h2⟩
  | panic c => exact ⟨s', ρ', hn, h1, h2⟩
  | outgrown => exact ⟨s', ρ', hn, h1, h2⟩

/-- A loop: a family of states, and a number that each round lowers. -/
theorem aw_loop {c : Code} {α : Type} (S : α → St) (I : α → Prop) (μ : α → Nat) (x0 : α) (h0 : Wk s (S x0)) (hI : I x0)
    (round : ∀ x, I x → aw P c (thenQ (fun s' => ∃ x', I x' ∧ Wk s' (S x') ∧ μ x' < μ x) Q) (S x)) : aw P (.loop c) Q s := by
  intro hb X O w0 F ρ a w hs
  have hb : bnd s.n c = true := hb
  obtain ⟨ρ1, hs1⟩ := h0.2 X O w0 F ρ a w hs
  intro b k cs
  have key : ∀ n x ρ a w, μ x = n → I x → (S x).n = s.n → Sim X O w0 F (S x) ρ a w →
      ∃ e a' w', conc X O w0 F s.n Q e a' w' ∧ Arrives P (lone (b.at a (.code c :: .inLoop c :: k)) cs w) b k cs e a' w' := by
    intro n
    induction n using Nat.strongRecOn with
    | _ n ih =>
      intro x ρ a w hn hI hsn hs
      obtain ⟨e, a₁, w₁, hq, harr⟩ := round x hI (by rw [hsn]; exact hb) X O w0 F ρ a w hs b (.inLoop c :: k) cs
      obtain ⟨s', ρ', hn', hs', hq⟩ := hq
      rw [hsn] at hn'
      cases e with
      | normal =>
        obtain ⟨x', hI', hwk, hlt⟩ := hq
        obtain ⟨ρ'', hs''⟩ := hwk.2 X O w0 F ρ' a₁ w₁ hs'
        obtain ⟨e₂, a₂, w₂, hq₂, harr₂⟩ := ih (μ x') (hn ▸ hlt) x' ρ'' a₁ w₁ rfl hI' (hwk.1.trans hn') hs''
        exact ⟨e₂, a₂, w₂, hq₂, .of_steps (Steps.trans harr (.one step_inLoop)) harr₂⟩
      | exit id => exact ⟨_, a₁, w₁, ⟨s', ρ', hn', hs', hq⟩, .pass (x := .inLoop c) rfl (fun _ _ => .inl (by simp)) harr⟩
      | goto l => exact ⟨_, a₁, w₁, ⟨s', ρ', hn', hs', hq⟩, .pass (x := .inLoop c) rfl (fun _ _ => .inl (by simp)) harr⟩
      | ret => exact ⟨_, a₁, w₁, ⟨s', ρ', hn', hs', hq⟩, .pass (x := .inLoop c) rfl (fun _ _ => .inl (by simp)) harr⟩
      | panic ch => exact ⟨_, a₁, w₁, ⟨s', ρ', hn', hs', hq⟩, .pass (x := .inLoop c) rfl (fun _ _ => .inl (by simp)) harr⟩
      | outgrown => exact ⟨_, a₁, w₁, ⟨s', ρ', hn', hs', hq⟩, .pass (x := .inLoop c) rfl (fun _ _ => .inl (by simp)) harr⟩
  obtain ⟨e, a', w', hq, harr⟩ := key _ x0 ρ1 a w rfl hI h0.1 hs1
  exact ⟨e, a', w', hq, .of_steps (.one step_loop) harr⟩

theorem aw_region {id : Nat} {ops : List Oper} (h : aops P ops ops (Q .normal) s) : aw P (.region id ops.toArray false) Q s := by
  intro hb X O w0 F ρ a w hs
  refine wp_region (aops_sound (K := fun s' => s'.n = s.n ∧ Q .normal s') _ ops s ρ a w ?_ ?_ ?_ hs (fun s' ρ' a' w' h1 h2 => ⟨s', ρ', h2.1, h1, h2.2⟩))
  · rw [List.size_toArray]
    apply List.ext_getElem?
    intro i
    simp only [List.getElem?_map]
    by_cases hi : i < ops.length
    · simp [hi]
    · rw [List.getElem?_eq_none (by simpa using hi), List.getElem?_eq_none (by simpa using hi)]; rfl
  · intro o ho x hx
    simp only [bnd, List.all_eq_true] at hb
    have := hb o ho
    simp only [dstOk, hx, decide_eq_true_eq] at this
    exact this
  · have key : ∀ (l : List Oper) (s1 : St), aops P ops l (Q .normal) s1 → aops P ops l (fun s' => s'.n = s1.n ∧ Q .normal s') s1 := by
      intro l
      induction l with
      | nil => intro s1 h; exact ⟨rfl, h⟩
      | cons o l ih =>
        rintro s1 ⟨c, s2, h1, h2⟩
        refine ⟨c, s2, h1, ?_⟩
        have := ih s2 h2
        rw [h1.n] at this
        exact this
    exact key ops s h

end

/-! ### running what calls no function -/
def wantK (o : Option Bool) (f : Bool → Prop) : Prop := match o with
  | none => False
  | some b => (b = true → f true) ∧ (b = false → f false)
def effK (o : Option (Cls × AV × List MO)) (K : AV → List MO → Prop) : Prop := match o with
  | none => False
  | some (_, v, M') => K v M'
def isFCall (o : Oper) : Bool := match o.op with
  | .call c => (match c.callee with
    | .value _ => true
    | _ => false)
  | _ => false
def runR (P : Program) (ops : List Oper) : List Oper → (St → List Oper → Prop) → St → Prop
  | [], K, s => K s []
  | o :: rest, K, s => wantK (s.want ops o) fun b => if b = true then (if isFCall o = true then K s (o :: rest) else effK (eff P o s.ev s.M) fun v M' => runR P ops rest K ({ s with M := M' }.put o.dst v)) else runR P ops rest K (s.put o.dst (.iv (.tup [])))
def run (P : Program) (ops : List Oper) (l : List Oper) (K : St → List Oper → Prop) (s : St) : Prop := runR P ops l K s
/-- What is left: the end, or a call. -/
def left (P : Program) (ops : List Oper) (Q : St → Prop) (s : St) (l : List Oper) : Prop := match l with
  | [] => Q s
  | o :: rest => s.want ops o = some true → aops P ops (o :: rest) Q s

theorem aops_run {P : Program} {ops : List Oper} {Q : St → Prop} : ∀ {l : List Oper} {s : St}, run P ops l (fun s l => left P ops Q s l) s → aops P ops l Q s
  | [], s, h => h
  | o :: rest, s, h => by
    simp only [run, runR] at h
    unfold wantK at h
    split at h
    · exact h.elim
    · rename_i b hb
      cases b with
      | false =>
        have h2 : runR P ops rest (fun s l => left P ops Q s l) (s.put o.dst (.iv (.tup []))) := by simpa using h
        exact ⟨.p, _, .skip s hb, aops_run h2⟩
      | true =>
        simp only [forall_const, if_true, reduceCtorEq, false_implies, and_true] at h
        split at h
        · exact h hb
        · unfold effK at h
          split at h
          · exact h.elim
          · rename_i c v M' he
            exact ⟨c, _, .eff s c v M' hb he, aops_run h⟩

section
variable {P : Program} {ops : List Oper} {Q : St → Prop} {s : St} {o : Oper} {rest : List Oper}

theorem left_end (h : Q s) : left P ops Q s [] := h
theorem left_call {f : Nat} {c : Call} {x : Operand} {ys : List IV} {r : IV} (ho : o.op = .call c) (hc : c.callee = .value x) (hx : s.ev x = .iv (.fnc f)) (ha : ivs (c.args.toList.map s.ev) = some ys)
    (h : PCalls P f ys r) (hk : run P ops rest (fun s l => left P ops Q s l) (s.put o.dst (.iv r))) : left P ops Q s (o :: rest) :=
  fun hw => ⟨_, _, .call s f c x ys r hw ho hc hx ha h, aops_run hk⟩
theorem left_callF {f : Nat} {c : Call} {x : Operand} {ys : List IV} {r : IV} {M' : List MO} (ho : o.op = .call c) (hc : c.callee = .value x) (hx : s.ev x = .iv (.fnc f)) (ha : argsF s.M (c.args.toList.map s.ev) = some (ys, M'))
    (h : PCalls P f ys r) (hk : run P ops rest (fun s l => left P ops Q s l) ({ s with M := M' }.put o.dst (.iv r))) : left P ops Q s (o :: rest) :=
  fun hw => ⟨_, _, .callF s f c x ys r M' hw ho hc hx ha h, aops_run hk⟩
theorem left_callB {f : Nat} {c : Call} {x : Operand} {ys : List IV} {r : IV} {M' : List MO} (ho : o.op = .call c) (hc : c.callee = .value x) (hx : s.ev x = .iv (.fnc f)) (ha : argsF s.M (c.args.toList.map s.ev) = some (ys, M'))
    (h : PCalls P f ys r) (hr : r.flat = true) (hk : run P ops rest (fun s l => left P ops Q s l) (s.put o.dst (.iv r))) : left P ops Q s (o :: rest) :=
  fun hw => ⟨_, _, .callB s f c x ys r M' hw ho hc hx ha h hr, aops_run hk⟩

theorem left_callM {s1 : St} {f : Nat} {caps : List AV} {c : Call} {x : Operand} {xs : List AV} {Ml M' : List MO} {r : AV} (l : List Nat) (hwk : Wk s s1) (h : MCalls P f xs Ml r M') (ho : o.op = .call c) (hc : c.callee = .value x)
      (hx : calleeOf (s1.ev x) = some (f, caps)) (ha : c.args.toList.map s1.ev ++ caps = rens (sg l s1.M.length) xs) (hp : Part s1.M l Ml)
      (hk : run P ops rest (fun s l => left P ops Q s l) ({ s1 with M := backM s1.M l M' }.put o.dst (ren (sg l s1.M.length) r))) : left P ops Q s (o :: rest) :=
  fun hw => ⟨_, _, .callM s s1 hwk f caps c x l xs Ml M' r hw ho hc hx ha hp h, aops_run hk⟩

end

/-! ### from a body to a call -/
def argsT : List IV → Nat → Nat → AV
  | [], _ => fun _ => .any
  | x :: l, k => upd (argsT l (k + 1)) k (.iv x)
theorem argsT_get : ∀ (l : List IV) (k i : Nat), argsT l k i = if k ≤ i then (match l[i - k]? with | some x => .iv x | none => .any) else .any
  | [], k, i => by simp [argsT]
  | x :: l, k, i => by
    simp only [argsT]
    by_cases e : i = k
    · subst e; rw [upd_same]; simp
    · rw [upd_ne _ _ e, argsT_get l (k + 1) i]
      by_cases h : k ≤ i
      · rw [if_pos (by omega), if_pos h, show i - k = (i - (k + 1)) + 1 from by omega, List.getElem?_cons_succ]
      · rw [if_neg (by omega), if_neg h]

/-- A result's value. -/
def resAV (P : Program) (s : St) : ResultVar → Option AV
  | .tmp t => some (s.t t)
  | .cell a ty => match s.t a with
    | .mp k off => match s.M[k]? with
      | some (.var _ cs) => (tAgg P ty).bind fun ag => varPart ag cs off
      | _ => none
    | _ => none
def resAVs (P : Program) (s : St) : List ResultVar → Option (List AV)
  | [] => some []
  | r :: l => (resAV P s r).bind fun v => (resAVs P s l).map (v :: ·)
def one? : List IV → IV
  | [y] => y
  | ys => .tup ys
def retV (P : Program) (rs : List ResultVar) (s : St) : Option IV := (resAVs P s rs).bind fun avs => (argsF s.M avs).map fun (ys, _) => one? ys
/-- The end of a function: its result is r. -/
def postQ (P : Program) (rs : List ResultVar) (r : IV) : Exit → St → Prop
  | .normal, s => retV P rs s = some r
  | .ret, s => retV P rs s = some r
  | _, _ => False

section
variable {P : Program} {X O : Nat → Prop} {w0 : World} {F : AV → Value → Prop} {s : St} {ρ : Nat → Option Nat} {a : Act} {w : World}

theorem run_res (hs : Sim X O w0 F s ρ a w) {r : ResultVar} {v : AV} (h : resAV P s r = some v) :
    ∃ u, (match r with | .tmp t => pure (a.tmps.getD t undef) | .cell p t => do loadVar t (← asAddr (a.tmps.getD p undef)) : Sem Value).run P w = .ok u w ∧ RepA s.M ρ (excl X s.M ρ) w v u := by
  cases r with
  | tmp t => cases h; exact ⟨_, rfl, hs.tm t⟩
  | cell p ty =>
    simp only [resAV] at h
    split at h
    · rename_i k off hp
      split at h
      · rename_i T cs hM
        obtain ⟨ag, hag, h⟩ := option_bind_some h
        have ha := hs.tm p
        rw [hp] at ha
        obtain ⟨T', cs', b, h1, hb, hv⟩ := inv_mp ha
        obtain ⟨b', arr, fz, h2, _, _, _, h6⟩ := var_cell hs.mem hM
        rw [hb] at h2; cases h2
        obtain ⟨u, hu, hr⟩ := varPart_load (P := P) hag h h6
        exact ⟨u, by simp [hv, asAddr, hu], hr⟩
      · cases h
    · cases h

theorem run_ress (hs : Sim X O w0 F s ρ a w) : ∀ {l : List ResultVar} {vs : List AV}, resAVs P s l = some vs →
    ∃ us, (l.mapM (fun r => match r with | .tmp t => pure (a.tmps.getD t undef) | .cell p t => do loadVar t (← asAddr (a.tmps.getD p undef)) : ResultVar → Sem Value)).run P w = .ok us w ∧ us.length = vs.length ∧
      ∀ (i : Nat) (x : AV) (v : Value), vs[i]? = some x → us[i]? = some v → RepA s.M ρ (excl X s.M ρ) w x v
  | [], vs, h => by simp [resAVs] at h; subst h; exact ⟨[], by simp, rfl, by simp⟩
  | r :: l, vs, h => by
    simp only [resAVs] at h
    obtain ⟨v, h1, h⟩ := option_bind_some h
    obtain ⟨vs', h2, h⟩ := option_map_some h
    subst h
    obtain ⟨u, hu, hr⟩ := run_res hs h1
    obtain ⟨us, hus, hl, hrs⟩ := run_ress hs h2
    refine ⟨u :: us, ?_, by simp [hl], fun i x v' hx hv => ?_⟩
    · simp only [List.mapM_cons, Sem.run_bind, hu, Result.andThen_ok, hus, Sem.run_pure]
    · cases i with
      | zero => simp at hx hv; subst hx hv; exact hr
      | succ i => exact hrs i x v' (by simpa using hx) (by simpa using hv)

theorem retV_sound (hs : Sim X O w0 F s ρ a w) {fn : Func} {r : IV} (h : retV P fn.results.toList s = some r) : ∃ v, (results fn a.tmps).run P w = .ok v w ∧ RepI X w r v := by
  unfold retV at h
  obtain ⟨avs, h1, h⟩ := option_bind_some h
  obtain ⟨⟨ys, M'⟩, h2, h⟩ := option_map_some h
  simp only at h
  obtain ⟨us, hus, hl, hrs⟩ := run_ress hs h1
  obtain ⟨hf, hl2, hy⟩ := argsF_sound avs hs.mem us hl hrs h2
  have hX : ∀ (i : Nat) (y : IV) (v : Value), ys[i]? = some y → us[i]? = some v → RepI X w y v := fun i y v h3 h4 =>
    (hy i y v h3 h4).mono ⟨Nat.le_refl _, fun b _ hb => ⟨rfl, fun hx => hb (.inl hx)⟩⟩
  have hrun : (fn.results.mapM (fun r => match r with | .tmp t => pure (a.tmps.getD t undef) | .cell p t => do loadVar t (← asAddr (a.tmps.getD p undef)) : ResultVar → Sem Value)).run P w = .ok us.toArray w := by
    rw [Array.mapM_eq_mapM_toList, Sem.run_map, hus]; rfl
  refine ⟨if h : us.toArray.size = 1 then us.toArray[0] else .tuple us.toArray, ?_, ?_⟩
  · unfold results
    rw [Sem.run_bind]
    refine (congrArg (fun r => Result.andThen r _) (Eq.trans (congrArg (fun (f : ResultVar → Sem Value) => Sem.run P (Array.mapM f fn.results) w) (funext fun r => ?_)) hrun)).trans rfl
    cases r <;> rfl
  · subst h
    match ys, us, hl, hl2, hX with
    | [], us, hl, hl2, hX =>
      have : us = [] := List.eq_nil_of_length_eq_zero (by simp at hl2; omega)
      subst this
      exact .tup [] #[] rfl (by simp)
    | [y], us, hl, hl2, hX =>
      obtain ⟨u, rfl⟩ : ∃ u, us = [u] := by
        cases us with
        | nil => simp at hl hl2; omega
        | cons u l => cases l with
          | nil => exact ⟨u, rfl⟩
          | cons => simp at hl hl2; omega
      exact hX 0 y u rfl rfl
    | y :: y' :: l, us, hl, hl2, hX =>
      have hne : ¬ us.toArray.size = 1 := by simp at hl2 ⊢; omega
      rw [dif_neg hne]
      exact .tup _ _ (by simp at hl2 ⊢; omega) (fun i x v h3 h4 => hX i x v h3 (by simpa using h4))

end

/-- A body that ends in r, as a call. -/
theorem PCalls.of_aw {P : Program} {f : Nat} {fn : Func} {c : Code} {args : List IV} {r : IV} (hf : P.funcs[f]? = some fn) (hb : fn.body = some c) (hc : Callable P f) (hn : bnd fn.ntmps c = true) (hl : args.length ≤ fn.ntmps)
    (h : aw P c (postQ P fn.results.toList r) ⟨fn.ntmps, argsT args 0, [], 0⟩) : PCalls P f args r := by
  refine ⟨hc, fun w E vs hvl hargs hE => ?_⟩
  have hmem : MemOk E (fun _ => False) w [] (fun _ => none) w := {
    obj := by intro k o hk; simp at hk
    inj := by intro k k' b hk; simp at hk
    own := by intro k b hk; simp at hk
    keep := Keep.refl _ _
    ext := hE }
  have hsim : Sim E (fun _ => False) w (fun _ _ => False) ⟨fn.ntmps, argsT args 0, [], 0⟩ (fun _ => none) { tmps := vs.toArray ++ Array.replicate (fn.ntmps - vs.toArray.size) undef, defers := [] } w := {
    size := by simp; omega
    defers := rfl
    tm := by
      intro i
      show RepA [] (fun _ => none) (excl E [] fun _ => none) w (argsT args 0 i) _
      rw [argsT_get, if_pos (Nat.zero_le _), Nat.sub_zero]
      cases hx : args[i]? with
      | none => exact .any _
      | some x =>
        have hi := lt_of_get hx
        have hv : vs[i]? = some (vs[i]'(by omega)) := List.getElem?_eq_getElem (by omega)
        have h1 := hargs i x _ hx hv
        have h2 : (vs.toArray ++ Array.replicate (fn.ntmps - vs.toArray.size) undef).getD i undef = vs[i]'(by omega) := by
          rw [Array.getD_eq_getD_getElem?, Array.getElem?_append_left (by simp; omega)]
          simp [hv]
        rw [h2]
        exact .iv _ _ (h1.mono ⟨Nat.le_refl _, fun b _ hb => ⟨rfl, by
          rintro (hX | ⟨k, o, hk, _⟩)
          · exact hb hX
          · simp at hk⟩⟩)
    mem := hmem
    fr := fun _ _ h => h.elim }
  refine calls_of_wp hf hb (wp_mono (h hn E _ w _ _ _ w hsim) ?_)
  rintro e a' w' ⟨s', ρ', hn', hs', hq⟩
  have fin : retV P fn.results.toList s' = some r → a'.defers = [] ∧ ∃ v, (results fn a'.tmps).run P w' = .ok v w' ∧ ∃ u, Ending.returned v = .returned u ∧ RepI E w' r u ∧ Below w.heap.size w w' := by
    intro hr
    obtain ⟨v, h1, h2⟩ := retV_sound hs' hr
    exact ⟨hs'.defers, v, h1, v, rfl, h2, hs'.mem.keep.below⟩
  cases e with
  | normal => exact fin hq
  | ret => exact fin hq
  | exit i => exact hq.elim
  | goto i => exact hq.elim
  | panic c => exact hq.elim
  | outgrown => exact hq.elim

end Go.Proofs.Ytebegdnebjjnmaa.AM
