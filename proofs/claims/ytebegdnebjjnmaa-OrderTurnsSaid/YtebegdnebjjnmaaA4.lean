
/- The abstract machine, 4: what an operation does to values without addresses is what it does in memory: the operations that write nothing. No condition. -/
import Derived.Test.YtebegdnebjjnmaaA3
import Derived.Laws.Slices
import Derived.Laws.Entries
import Derived.Laws.AppendOwn
import Derived.Laws.Cells
set_option linter.unusedVariables false
set_option linter.unusedSimpArgs false
namespace Go.Proofs.Ytebegdnebjjnmaa.AM
open Go Go.RowKit

section
variable {P : Program} {X O : Nat → Prop} {w0 : World} {M : List MO} {ρ : Nat → Option Nat} {E : Nat → Prop} {w : World}

theorem inv_int {k : IntKind} {n : Int} {v : Value} (h : RepA M ρ E w (.iv (.int k n)) v) : v = .int k n := by cases h with | iv _ _ h => cases h; rfl
theorem inv_bool {b : Bool} {v : Value} (h : RepA M ρ E w (.iv (.bool b)) v) : v = .bool b := by cases h with | iv _ _ h => cases h; rfl
theorem inv_str {s : ByteArray} {v : Value} (h : RepA M ρ E w (.iv (.str s)) v) : v = .string s := by cases h with | iv _ _ h => cases h; rfl
theorem inv_nilp {v : Value} (h : RepA M ρ E w (.iv .nilp) v) : v = .pointer none := by cases h with | iv _ _ h => cases h; rfl
theorem inv_fnc {f : Nat} {v : Value} (h : RepA M ρ E w (.iv (.fnc f)) v) : v = .func (.func f) #[] #[] := by cases h with | iv _ _ h => cases h; rfl
theorem inv_mp {k off : Nat} {v : Value} (h : RepA M ρ E w (.mp k off) v) : ∃ T cs b, M[k]? = some (.var T cs) ∧ ρ k = some b ∧ v = .pointer (some ⟨b, off, none⟩) := by
  cases h with | mp _ _ T cs b h hb => exact ⟨T, cs, b, h, hb, rfl⟩
theorem inv_nilsl {v : Value} (h : RepA M ρ E w .nilsl v) : ∃ A, v = .slice A 0 0 := by cases h with | nilsl A => exact ⟨A, rfl⟩
theorem inv_agg {cs : List AV} {v : Value} (h : RepA M ρ E w (.agg cs) v) : ∃ vs, v = .agg vs ∧ vs.size = cs.length ∧ ∀ (i : Nat) (y : AV) (z : Value), cs[i]? = some y → vs[i]? = some z → RepA M ρ E w y z := by
  cases h with | agg _ vs hl h => exact ⟨vs, rfl, hl, h⟩
theorem inv_ivagg {cs : List IV} {v : Value} (h : RepA M ρ E w (.iv (.agg cs)) v) : ∃ vs, v = .agg vs ∧ vs.size = cs.length ∧ ∀ (i : Nat) (y : IV) (z : Value), cs[i]? = some y → vs[i]? = some z → RepI E w y z := by
  cases h with | iv _ _ h => cases h with | agg _ vs hl h => exact ⟨vs, rfl, hl, h⟩
theorem inv_rep_agg {cs : List IV} {v : Value} (h : RepI E w (.agg cs) v) : ∃ vs, v = .agg vs ∧ vs.size = cs.length ∧ ∀ (i : Nat) (y : IV) (z : Value), cs[i]? = some y → vs[i]? = some z → RepI E w y z := by
  cases h with | agg _ vs hl h => exact ⟨vs, rfl, hl, h⟩
theorem inv_rep_tup {cs : List IV} {v : Value} (h : RepI E w (.tup cs) v) : ∃ vs, v = .tuple vs ∧ vs.size = cs.length ∧ ∀ (i : Nat) (y : IV) (z : Value), cs[i]? = some y → vs[i]? = some z → RepI E w y z := by
  cases h with | tup _ vs hl h => exact ⟨vs, rfl, hl, h⟩

/-- A slice without memory of the call's own: empty, or a row of cells. -/
theorem inv_rep_sl {sz : Nat} {xs : List IV} {v : Value} (h : RepI E w (.sl sz xs) v) : ∃ A c, v = .slice A xs.length c ∧ xs.length ≤ c ∧
    (xs = [] ∨ ∃ b o, A = some ⟨b, o, none⟩ ∧ ¬ E b ∧ b < w.heap.size ∧ (∀ (i : Nat) (x : IV), xs[i]? = some x → x.fits sz = true) ∧
      ∀ (i : Nat) (x : IV) (j : Nat) (y : IV), xs[i]? = some x → x.cells[j]? = some y → ∃ u, w.cell? ⟨b, o + (i * sz + j), none⟩ = some u ∧ RepI E w y u) := by
  cases h with
  | sl0 sz A c => exact ⟨A, c, rfl, Nat.zero_le _, .inl rfl⟩
  | sl sz xs b o c u hc hE hb hs hu hr =>
    refine ⟨_, c, rfl, hc, .inr ⟨b, o, rfl, hE, hb, hs, fun i x j y hx hy => ⟨u i j, hu i j ((List.getElem?_eq_some_iff.1 hx).1) ?_, hr i x j y hx hy⟩⟩⟩
    have := (List.getElem?_eq_some_iff.1 hy).1
    rw [IV.fits_len (hs i x hx)] at this
    exact this

theorem rep_sl_mk {sz : Nat} {xs : List IV} {b o c : Nat} (hc : xs.length ≤ c) (hE : ¬ E b) (hb : b < w.heap.size) (hs : ∀ (i : Nat) (x : IV), xs[i]? = some x → x.fits sz = true)
    (h : ∀ (i : Nat) (x : IV) (j : Nat) (y : IV), xs[i]? = some x → x.cells[j]? = some y → ∃ u, w.cell? ⟨b, o + (i * sz + j), none⟩ = some u ∧ RepI E w y u) :
    RepI E w (.sl sz xs) (.slice (some ⟨b, o, none⟩) xs.length c) := by
  refine .sl sz xs b o c (fun i j => (w.cell? ⟨b, o + (i * sz + j), none⟩).getD undef) hc hE hb hs (fun i j hi hj => ?_) (fun i x j y hx hy => ?_)
  · obtain ⟨x, hx⟩ : ∃ x, xs[i]? = some x := ⟨_, List.getElem?_eq_getElem hi⟩
    have hj' : j < x.cells.length := by rw [IV.fits_len (hs i x hx)]; exact hj
    obtain ⟨u, hu, _⟩ := h i x j _ hx (List.getElem?_eq_getElem hj')
    rw [hu]; rfl
  · obtain ⟨u, hu, hr⟩ := h i x j y hx hy
    simp only [hu, Option.getD_some]; exact hr

theorem ivs_spec : ∀ {cs : List AV} {l : List IV}, ivs cs = some l → cs = l.map .iv
  | [], l, h => by simp [ivs] at h; subst h; rfl
  | c :: cs, l, h => by
    cases c <;> simp [ivs] at h
    obtain ⟨l', h1, rfl⟩ := h
    rw [ivs_spec h1]; rfl

theorem rep_mkAgg {cs : List AV} {vs : Array Value} (hl : vs.size = cs.length) (h : ∀ (i : Nat) (y : AV) (z : Value), cs[i]? = some y → vs[i]? = some z → RepA M ρ E w y z) :
    RepA M ρ E w (mkAgg cs) (.agg vs) := by
  unfold mkAgg
  cases hi : ivs cs with
  | none => exact .agg cs vs hl h
  | some l =>
    have e := ivs_spec hi
    subst e
    refine .iv _ _ (.agg l vs (by simpa using hl) (fun i y z hy hz => ?_))
    have := h i (.iv y) z (by rw [List.getElem?_map, hy]; rfl) hz
    cases this with | iv _ _ h => exact h

theorem rep_constCell (v : Value) : RepA M ρ E w (constCell v) v := by
  cases v with
  | bool b => exact .iv _ _ (.bool b)
  | int k n => exact .iv _ _ (.int k n)
  | string s => exact .iv _ _ (.str s)
  | pointer a =>
    cases a with
    | none => exact .iv _ _ .nilp
    | some a => exact .any _
  | slice a n c =>
    unfold constCell
    split
    all_goals first | exact .any _ | skip
    all_goals rename_i h
    all_goals cases h
    exact .nilsl _
  | _ => exact .any _

theorem rep_constAV (v : Value) : RepA M ρ E w (constAV v) v := by
  unfold constAV
  split
  · refine rep_mkAgg (by simp) (fun i y z hy hz => ?_)
    rw [List.getElem?_map] at hy
    simp only [Array.getElem?_toList, hz] at hy
    cases hy
    exact rep_constCell z
  · exact rep_constCell v

theorem rep_cells {x : AV} {cs : List AV} {v : Value} (h : RepA M ρ E w x v) (hc : x.cells = some cs) :
    v.cells.size = cs.length ∧ ∀ (i : Nat) (y : AV) (z : Value), cs[i]? = some y → v.cells[i]? = some z → RepA M ρ E w y z := by
  have single : ∀ {x : AV} {v : Value}, RepA M ρ E w x v → v.cells = #[v] → v.cells.size = [x].length ∧ ∀ (i : Nat) (y : AV) (z : Value), [x][i]? = some y → v.cells[i]? = some z → RepA M ρ E w y z := by
    intro x v h e
    rw [e]
    refine ⟨rfl, fun i y z hy hz => ?_⟩
    cases i with
    | zero => simp at hy hz; subst hy hz; exact h
    | succ i => simp at hy
  cases h with
  | any v => simp [AV.cells] at hc
  | nilsl A => simp [AV.cells] at hc; subst hc; exact single (.nilsl A) rfl
  | msl k off len n v m T sz xs h hn hv hf =>
    simp [AV.cells] at hc; subst hc
    obtain ⟨A, l, c, rfl⟩ := hv
    exact single (.msl k off len n _ m T sz xs h hn ⟨A, l, c, rfl⟩ hf) rfl
  | mp k off T cs b h hb => simp [AV.cells] at hc; subst hc; exact single (.mp k off T cs b h hb) rfl
  | rp k n i c v m T sz xs h hn hv hf =>
    simp [AV.cells] at hc; subst hc
    obtain ⟨A, rfl⟩ := hv
    exact single (.rp k n i c _ m T sz xs h hn ⟨A, rfl⟩ hf) rfl
  | ip sz xs i c b o cap h hi => simp [AV.cells] at hc; subst hc; exact single (.ip sz xs i c b o cap h hi) rfl
  | agg cs vs hl h => simp [AV.cells] at hc; subst hc; exact ⟨hl, h⟩
  | tup cs vs hl h => simp [AV.cells] at hc
  | fn f caps vs hl h => simp [AV.cells] at hc; subst hc; exact single (.fn f caps vs hl h) rfl
  | iv x v h =>
    cases h with
    | agg cs vs hl h =>
      simp [AV.cells] at hc; subst hc
      refine ⟨by simpa [Value.cells] using hl, fun i y z hy hz => ?_⟩
      rw [List.getElem?_map] at hy
      cases hx : cs[i]? with
      | none => rw [hx] at hy; cases hy
      | some y' => rw [hx] at hy; cases hy; exact .iv _ _ (h i y' z hx hz)
    | tup cs vs hl h => simp [AV.cells] at hc
    | bool b => simp [AV.cells] at hc; subst hc; exact single (.iv _ _ (.bool b)) rfl
    | int k n => simp [AV.cells] at hc; subst hc; exact single (.iv _ _ (.int k n)) rfl
    | str s => simp [AV.cells] at hc; subst hc; exact single (.iv _ _ (.str s)) rfl
    | nilp => simp [AV.cells] at hc; subst hc; exact single (.iv _ _ .nilp) rfl
    | fnc f => simp [AV.cells] at hc; subst hc; exact single (.iv _ _ (.fnc f)) rfl
    | sl0 sz A c => simp [AV.cells] at hc; subst hc; exact single (.iv _ _ (.sl0 sz A c)) rfl
    | sl sz xs b o c u h1 h2 h3 h4 h5 h6 => simp [AV.cells] at hc; subst hc; exact single (.iv _ _ (.sl sz xs b o c u h1 h2 h3 h4 h5 h6)) rfl

/-- The same of a value without memory. -/
theorem rep_cellsI {x : IV} {v : Value} (h : RepI E w x v) (ht : ∀ vs, x ≠ .tup vs) : v.cells.size = x.cells.length ∧ ∀ (i : Nat) (y : IV) (z : Value), x.cells[i]? = some y → v.cells[i]? = some z → RepI E w y z := by
  have single : ∀ {x : IV} {v : Value}, RepI E w x v → v.cells = #[v] → v.cells.size = [x].length ∧ ∀ (i : Nat) (y : IV) (z : Value), [x][i]? = some y → v.cells[i]? = some z → RepI E w y z := by
    intro x v h e
    rw [e]
    refine ⟨rfl, fun i y z hy hz => ?_⟩
    cases i with
    | zero => simp at hy hz; subst hy hz; exact h
    | succ i => simp at hy
  cases h with
  | agg cs vs hl h => exact ⟨hl, h⟩
  | tup cs vs hl h => exact absurd rfl (ht cs)
  | bool b => exact single (.bool b) rfl
  | int k n => exact single (.int k n) rfl
  | str s => exact single (.str s) rfl
  | nilp => exact single .nilp rfl
  | fnc f => exact single (.fnc f) rfl
  | sl0 sz A c => exact single (.sl0 sz A c) rfl
  | sl sz xs b o c u h1 h2 h3 h4 h5 h6 => exact single (.sl sz xs b o c u h1 h2 h3 h4 h5 h6) rfl

/-! ### numbers -/

theorem vrun {s : Sem Value} {u : Value} {w' : World} (h : s.run P w = .ok u w') : (do pure (Next.value (← s)) : Sem Next).run P w = .ok (.value u) w' := by
  simp [h]

theorem numBin_sound (op : BinOp) (k : IntKind) (a b : Int) (r : IV) (h : numBin op k a b = some r) (hs : isShift op = false) (t : TypeId) :
    ∃ u, (binOp op t (.int k a) (.int k b)).run P w = .ok u w ∧ RepI E w r u := by
  cases op <;> simp [numBin, isShift] at h hs
  case quo => obtain ⟨hb, rfl⟩ := h; exact ⟨_, by simp [binOp, Op.intDiv, hb], .int _ _⟩
  case rem => obtain ⟨hb, rfl⟩ := h; exact ⟨_, by simp [binOp, Op.intDiv, hb], .int _ _⟩
  case add => subst h; exact ⟨_, by rw [binOp_add]; rfl, .int _ _⟩
  case sub => subst h; exact ⟨_, by rw [binOp_sub]; rfl, .int _ _⟩
  case mul => subst h; exact ⟨_, by rw [binOp_mul]; rfl, .int _ _⟩
  case and => subst h; exact ⟨_, by rw [binOp_and]; rfl, .int _ _⟩
  case or => subst h; exact ⟨_, by rw [binOp_or]; rfl, .int _ _⟩
  case xor => subst h; exact ⟨_, by rw [binOp_xor]; rfl, .int _ _⟩
  case andNot => subst h; exact ⟨_, by rw [binOp_andNot]; rfl, .int _ _⟩
  case eql => subst h; exact ⟨_, by rw [binOp_eql]; rfl, .bool _⟩
  case neq => subst h; exact ⟨_, by rw [binOp_neq]; rfl, .bool _⟩
  case lss => subst h; exact ⟨_, by rw [binOp_lss]; rfl, .bool _⟩
  case leq => subst h; exact ⟨_, by rw [binOp_leq]; rfl, .bool _⟩
  case gtr => subst h; exact ⟨_, by rw [binOp_gtr]; rfl, .bool _⟩
  case geq => subst h; exact ⟨_, by rw [binOp_geq]; rfl, .bool _⟩

theorem shiftI_sound (op : BinOp) (k yk : IntKind) (a b : Int) (r : IV) (h : shiftI op k a b = some r) (t : TypeId) (hs : isShift op = true) :
    ∃ u, (binOp op t (.int k a) (.int yk b)).run P w = .ok u w ∧ RepI E w r u := by
  unfold shiftI at h
  split at h
  · cases h
  · rename_i hb
    cases op <;> simp [isShift] at hs <;> simp at h
    · subst h; exact ⟨_, by simp [binOp, Op.shift, hb], .int _ _⟩
    · subst h; exact ⟨_, by simp [binOp, Op.shift, hb], .int _ _⟩

theorem strBin_sound (op : BinOp) (a b : ByteArray) (r : IV) (h : strBin op a b = some r) (t : TypeId) : ∃ u, (binOp op t (.string a) (.string b)).run P w = .ok u w ∧ RepI E w r u := by
  have hb : binOp op t (.string a) (.string b) = Op.stringOp op a b := by cases op <;> rfl
  rw [hb]
  cases op <;> simp [strBin] at h
  case add =>
    obtain ⟨h1, rfl⟩ := h
    refine ⟨_, ?_, .str _⟩
    have : ¬ ((9223372036854775807 : Int) < (a.size : Int) + (b.size : Int)) := by omega
    simp [Op.stringOp, this]
  all_goals (subst h; exact ⟨_, by simp [Op.stringOp], .bool _⟩)


theorem tKind_bool {t : TypeId} (h : tKind P t = some .bool) : P.underlying t = some .bool := by
  unfold tKind at h; split at h <;> first | assumption | cases h
theorem tKind_str {t : TypeId} (h : tKind P t = some .str) : P.underlying t = some .string := by
  unfold tKind at h; split at h <;> first | assumption | cases h
theorem tKind_int {t : TypeId} {k : IntKind} (h : tKind P t = some (.int k)) : P.underlying t = some (.int k) := by
  unfold tKind at h; split at h <;> first | assumption | (cases h; assumption) | cases h
theorem tKind_ptr {t : TypeId} (h : tKind P t = some .ptr) : ∃ e, P.underlying t = some (.pointer e) := by
  unfold tKind at h; split at h <;> first | exact ⟨_, by assumption⟩ | cases h
theorem tKind_slc {t : TypeId} (h : tKind P t = some .slc) : ∃ e, P.underlying t = some (.slice e) := by
  unfold tKind at h; split at h <;> first | exact ⟨_, by assumption⟩ | cases h
theorem tKind_some {t : TypeId} (h : (tKind P t).isSome = true) : ∃ d, P.underlying t = some d := by
  unfold tKind at h; split at h <;> first | exact ⟨_, by assumption⟩ | (simp at h)

theorem equalIn_bool {t : TypeId} (h : P.underlying t = some .bool) (a b : Bool) (d : Nat) : (Op.equalIn (d + 1) t (.bool a) (.bool b)).run P w = .ok (a == b) w := by
  simp [Op.equalIn, run_underlying h]
theorem equalIn_ptr_nil {t e : TypeId} (h : P.underlying t = some (.pointer e)) (a : Addr) (d : Nat) : (Op.equalIn (d + 1) t (.pointer (some a)) (.pointer none)).run P w = .ok false w := by
  simp [Op.equalIn, run_underlying h]
theorem equalIn_nil_nil {t e : TypeId} (h : P.underlying t = some (.pointer e)) (d : Nat) : (Op.equalIn (d + 1) t (.pointer none) (.pointer none)).run P w = .ok true w := by
  simp [Op.equalIn, run_underlying h]
theorem equal_bool {t : TypeId} (h : P.underlying t = some .bool) (a b : Bool) : (Op.equal t (.bool a) (.bool b)).run P w = .ok (a == b) w := equalIn_bool h a b 9999
theorem equal_ptr_nil {t e : TypeId} (h : P.underlying t = some (.pointer e)) (a : Addr) : (Op.equal t (.pointer (some a)) (.pointer none)).run P w = .ok false w := equalIn_ptr_nil h a 9999
theorem equal_nil_nil {t e : TypeId} (h : P.underlying t = some (.pointer e)) : (Op.equal t (.pointer none) (.pointer none)).run P w = .ok true w := equalIn_nil_nil h 9999

theorem binAV_sound {op : BinOp} {t : TypeId} {x y : AV} {r : IV} (ox oy : Operand) {u v : Value} (hx : RepA M ρ E w x u) (hy : RepA M ρ E w y v) (h : binAV P op t x y = some r) :
    ∃ z, (do eqGuard op t ox oy u v; binOp op t u v : Sem Value).run P w = .ok z w ∧ RepI E w r z := by
  unfold binAV at h
  split at h
  · rw [inv_int hx, inv_int hy, eqGuard_at_int]
    simp only [pure_bind]
    split at h
    · exact shiftI_sound op _ _ _ _ r h t (by assumption)
    · split at h
      · rename_i e; subst e; exact numBin_sound op _ _ _ r h (by simpa using (by assumption : ¬ isShift op = true)) t
      · cases h
  · rw [inv_str hx, inv_str hy, eqGuard_at_string]
    simp only [pure_bind]
    exact strBin_sound op _ _ r h t
  · rw [inv_bool hx, inv_bool hy, eqGuard_at_bool]
    simp only [pure_bind]
    split at h
    · cases h; rename_i hk; exact ⟨_, by simp [binOp, equal_bool (tKind_bool hk)], .bool _⟩
    · cases h; rename_i hk; exact ⟨_, by simp [binOp, equal_bool (tKind_bool hk)], .bool _⟩
    · cases h
  · obtain ⟨T, cs, b, _, _, rfl⟩ := inv_mp hx
    rw [inv_nilp hy, eqGuard_at_pointer]
    simp only [pure_bind]
    split at h
    · cases h; rename_i hk; obtain ⟨e, he⟩ := tKind_ptr hk; exact ⟨_, by simp [binOp, equal_ptr_nil he], .bool _⟩
    · cases h; rename_i hk; obtain ⟨e, he⟩ := tKind_ptr hk; exact ⟨_, by simp [binOp, equal_ptr_nil he], .bool _⟩
    · cases h
  · rw [inv_nilp hx, inv_nilp hy, eqGuard_at_pointer]
    simp only [pure_bind]
    split at h
    · cases h; rename_i hk; obtain ⟨e, he⟩ := tKind_ptr hk; exact ⟨_, by simp [binOp, equal_nil_nil he], .bool _⟩
    · cases h; rename_i hk; obtain ⟨e, he⟩ := tKind_ptr hk; exact ⟨_, by simp [binOp, equal_nil_nil he], .bool _⟩
    · cases h
  · cases h

theorem unAV_sound {op : UnOp} {x : AV} {r : IV} {u : Value} (hx : RepA M ρ E w x u) (h : unAV op x = some r) : ∃ z, (Op.unary op u).run P w = .ok z w ∧ RepI E w r z := by
  unfold unAV at h
  split at h
  · rw [inv_bool hx]; cases h; exact ⟨_, rfl, .bool _⟩
  · rw [inv_int hx]; cases h; exact ⟨_, rfl, .int _ _⟩
  · rw [inv_int hx]; cases h; exact ⟨_, rfl, .int _ _⟩
  · cases h

theorem convAV_sound {src dst : TypeId} {x : AV} {c : Cls} {v : AV} {M' : List MO} {u : Value} (hx : RepA M ρ E w x u) (h : convAV P src dst x M = some (c, v, M')) :
    c = .p ∧ M' = M ∧ ∃ z, (convert src dst u).run P w = .ok z w ∧ RepA M ρ E w v z := by
  unfold convAV at h
  split at h
  · rename_i k k' n hk
    split at h
    · rename_i hs
      obtain ⟨d, hd⟩ := tKind_some hs
      cases h
      rw [inv_int hx]
      refine ⟨rfl, rfl, _, ?_, .iv _ _ (.int _ _)⟩
      simp only [convert, Sem.run_bind, run_underlying hd, run_underlying (tKind_int hk), Result.andThen]
      rfl
    · cases h
  · rename_i s hk
    split at h
    · rename_i hs
      obtain ⟨d, hd⟩ := tKind_some hs
      cases h
      rw [inv_str hx]
      refine ⟨rfl, rfl, _, ?_, .iv _ _ (.str _)⟩
      simp only [convert, Sem.run_bind, run_underlying hd, run_underlying (tKind_str hk), Result.andThen]
      cases d <;> rfl
    · cases h
  · cases h

end
end Go.Proofs.Ytebegdnebjjnmaa.AM
