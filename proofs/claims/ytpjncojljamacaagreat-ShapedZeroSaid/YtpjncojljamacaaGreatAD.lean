-- Ranges over functions: a round is walked like a call's body.
import Derived.Test.YtpjncojljamacaaGreatAC
import Derived.RangeFuncNested
set_option linter.unusedVariables false
set_option linter.unusedSimpArgs false
namespace Go.Proofs.YtpjncojljamacaaGreat.AM
open Go Go.RowKit

section
variable {P : Program} {X O : Nat → Prop} {w0 : World} {F : AV → Value → Prop} {s : St} {ρ : Nat → Option Nat} {a : Act} {w : World}

theorem marks_inj : ∀ {l l' : List Nat}, marks l = marks l' → l = l'
  | [], [], _ => rfl
  | [], _ :: _, h => by simp [marks] at h
  | _ :: _, [], h => by simp [marks] at h
  | a :: l, b :: l', h => by
    simp only [marks, List.map_cons, List.cons.injEq, Deferred.mk.injEq, Target.collected.injEq] at h
    rw [h.1.1, marks_inj h.2]

def Mine (M : List MO) (ρ : Nat → Option Nat) (a : Act) (b : Nat) : Prop := blocks M ρ b ∨ ∃ l, a.defers = marks l ∧ b ∈ l
theorem Mine.old (hs : Sim X O w0 F s ρ a w) {b : Nat} (h : Mine s.M ρ a b) : ¬ X b ∧ (O b ∨ w0.heap.size ≤ b) := by
  rcases h with ⟨k, hk, hb⟩ | ⟨l, hl, hb⟩
  · exact hs.mem.own k b hk hb
  · obtain ⟨l', h1, _, h3⟩ := hs.defers
    rw [h1] at hl
    have := marks_inj hl
    subst this
    exact ⟨(h3 b hb).1, (h3 b hb).2.1⟩
theorem Mine.kind (hs : Sim X O w0 F s ρ a w) {b : Nat} (h : Mine s.M ρ a b) : (∃ o, w.heap[b]? = some o ∧ dataO o = true) ∨ w.heap[b]? = some (Obj.deferred (some [])) := by
  rcases h with ⟨k, hk, hb⟩ | ⟨l, hl, hb⟩
  · exact .inl (hs.mem.data hk hb)
  · obtain ⟨l', h1, _, h3⟩ := hs.defers
    rw [h1] at hl
    have := marks_inj hl
    subst this
    exact .inr (h3 b hb).2.2

theorem aw_sub {c : Code} {Q : Exit → St → Prop} (h : aw P c Q s) (rd : Option Nat) (hb : bnd rd.isNone s.n c = true) (hs : Sim X O w0 F s ρ a w) :
    c.wpIn (fr rd) 0 P (fun e a' w' => ∃ s' ρ', s'.n = s.n ∧ Sim X O w0 F s' ρ' a' w' ∧ Q e s' ∧ w.heap.size ≤ w'.heap.size ∧
      (∀ b, Mine s'.M ρ' a' b → Mine s.M ρ a b ∨ w.heap.size ≤ b) ∧
      (∀ b, b < w.heap.size → ¬ Mine s.M ρ a b → w'.heap[b]? = w.heap[b]?)) a w := by
  have hs2 : Sim X (Mine s.M ρ a) w F s ρ a w := by
    refine ⟨hs.size, ?_, hs.tm, ⟨hs.mem.obj, hs.mem.inj, fun k b hk hb => ⟨(hs.mem.own k b hk hb).1, .inl (.inl ⟨k, hk, hb⟩)⟩, Keep.refl _ _, hs.mem.ext⟩, hs.fr⟩
    obtain ⟨l, h1, h2, h3⟩ := hs.defers
    exact ⟨l, h1, h2, fun D hD => ⟨(h3 D hD).1, .inl (.inr ⟨l, h1, hD⟩), (h3 D hD).2.2⟩⟩
  refine wpIn_mono (h rd hb X (Mine s.M ρ a) w F ρ a w hs2) ?_
  rintro e a' w' ⟨s', ρ', hn, hs', hq⟩
  have up : ∀ b, (Mine s.M ρ a b ∨ w.heap.size ≤ b) → (O b ∨ w0.heap.size ≤ b) := by
    rintro b (h | h)
    · exact (Mine.old hs h).2
    · exact .inr (Nat.le_trans hs.mem.keep.size h)
  refine ⟨s', ρ', hn, ⟨hs'.size, ?_, hs'.tm, ⟨hs'.mem.obj, hs'.mem.inj, fun k b hk hb => ⟨(hs'.mem.own k b hk hb).1, up b (hs'.mem.own k b hk hb).2⟩, ?_, hs'.mem.ext⟩, hs'.fr⟩, hq, hs'.mem.keep.size, fun b h => (Mine.old hs' h).2, fun b h1 h2 => hs'.mem.keep.block b h1 h2⟩
  · obtain ⟨l, h1, h2, h3⟩ := hs'.defers
    exact ⟨l, h1, h2, fun D hD => ⟨(h3 D hD).1, up D (h3 D hD).2.1, (h3 D hD).2.2⟩⟩
  · refine hs.mem.keep.trans hs'.mem.keep (fun x hx hm => ?_)
    rcases (Mine.old hs hm).2 with h | h
    · exact h
    · omega

def none2 : Exit → St → Prop := fun _ _ => False
theorem aw_wkend {c : Code} {S : St} {Q : Exit → St → Prop} (h : aw P c (thenQ (fun s' => Wk s' S) Q) s) : aw P c (thenQ (fun s' => s' = S) Q) s := by
  intro rd hb X O w0 F ρ a w hs
  refine wpIn_mono (h rd hb X O w0 F ρ a w hs) ?_
  rintro e a' w' ⟨s', ρ', h1, h2, h3⟩
  cases e with
  | normal =>
    obtain ⟨ρ2, h4⟩ := h3.2 _ _ _ _ _ _ _ h2
    exact ⟨S, ρ2, h3.1.trans h1, h4, rfl⟩
  | exit i => exact ⟨s', ρ', h1, h2, h3⟩
  | goto i => exact ⟨s', ρ', h1, h2, h3⟩
  | ret => exact ⟨s', ρ', h1, h2, h3⟩
  | panic c => exact ⟨s', ρ', h1, h2, h3⟩
  | outgrown => exact ⟨s', ρ', h1, h2, h3⟩

def Gives (P : Program) (gf : Nat) (lb : Array Value) (Z : Nat → Prop) (us : List (Array Value)) (w : World) : Prop :=
  ∀ (l : Nat) (J : Nat → World → Prop) (W : World), (∀ i W1, J i W1 → ∀ b, Z b → W1.heap[b]? = w.heap[b]?) →
    (∀ i W1 W2, J i W1 → Below W1.heap.size W1 W2 → J i W2) → (∀ i u W1, us[i]? = some u → J i W1 → YieldAt (fr none) 0 P l u W1 (fun e W' => e = .returned (.bool true) ∧ J (i + 1) W')) →
    J 0 W → CallsIn (fr none) 0 P gf (#[.func (.yield l) #[] #[]] ++ lb) W (fun e W' => (∃ v, e = .returned v) ∧ J us.length W')

def Iter (P : Program) (gf : Nat) (M : List MO) (caps : List AV) (l : List Nat) (ys : List (List IV)) : Prop :=
  Callable P gf ∧ ∀ (X O : Nat → Prop) (w0 w : World) (ρ : Nat → Option Nat) (vs : Array Value), MemOk X O w0 M ρ w → vs.size = caps.length → (∀ (i : Nat) (y : AV) (z : Value), caps[i]? = some y → vs[i]? = some z → RepA M ρ (excl X M ρ) w y z) →
    ∃ (us : List (Array Value)) (Z : Nat → Prop), us.length = ys.length ∧
      (∀ (i : Nat) (y : List IV) (u : Array Value), ys[i]? = some y → us[i]? = some u → u.size = y.length ∧ ∀ (j : Nat) (x : IV) (v : Value), y[j]? = some x → u[j]? = some v → RepI (excl X M ρ) w x v) ∧
      (∀ b, Z b → (∃ arr T fz, w.heap[b]? = some (.cells arr T fz)) ∧ ∀ (k : Nat) (o : MO), k ∈ l → M[k]? = some o → o.mut = true → ρ k ≠ some b) ∧ Gives P gf vs Z us w

def setp (t : Nat → AV) (l : List (Nat × IV)) : Nat → AV := l.foldl (fun t q => upd t q.1 (.iv q.2)) t

theorem setp_rep {M : List MO} {ρ : Nat → Option Nat} {E : Nat → Prop} : ∀ (ps : List Nat) (y : List IV) (u : List Value) (t : Nat → AV) (tm : Array Value), (∀ p, p ∈ ps → p < tm.size) → u.length = y.length → (∀ (j : Nat) (x : IV) (v : Value), y[j]? = some x → u[j]? = some v → RepI E w x v) →
    (∀ i, RepA M ρ E w (t i) (tm.getD i undef)) → (∀ i, RepA M ρ E w (setp t (ps.zip y) i) (((ps.zip u).foldl (fun tm q => tm.setIfInBounds q.1 q.2) tm).getD i undef)) ∧ ((ps.zip u).foldl (fun tm q => tm.setIfInBounds q.1 q.2) tm).size = tm.size
  | [], y, u, t, tm, _, _, _, h => ⟨h, rfl⟩
  | p :: ps, [], u, t, tm, _, hl, _, h => by
    have : u = [] := List.eq_nil_of_length_eq_zero (by simpa using hl)
    subst this; exact ⟨h, rfl⟩
  | p :: ps, x :: y, [], t, tm, _, hl, _, h => by simp at hl
  | p :: ps, x :: y, v :: u, t, tm, hp, hl, hr, h => by
    have := setp_rep (M := M) (ρ := ρ) (E := E) ps y u (upd t p (.iv x)) (tm.setIfInBounds p v) (fun q hq => by simpa using hp q (by simp [hq])) (by simpa using hl) (fun j x' v' h1 h2 => hr (j + 1) x' v' (by simpa using h1) (by simpa using h2)) (fun i => ?_)
    · refine ⟨this.1, ?_⟩
      rw [show (((p :: ps).zip (v :: u)).foldl (fun tm q => tm.setIfInBounds q.1 q.2) tm) = ((ps.zip u).foldl (fun tm q => tm.setIfInBounds q.1 q.2) (tm.setIfInBounds p v)) from rfl, this.2]
      simp
    · have hlt := hp p (by simp)
      by_cases e : i = p
      · subst e
        rw [upd_same, Array.getD_eq_getD_getElem?, Array.getElem?_setIfInBounds_self_of_lt hlt]
        exact .iv _ _ (hr 0 x v rfl rfl)
      · rw [upd_ne _ _ e, Array.getD_eq_getD_getElem?, Array.getElem?_setIfInBounds_ne (Ne.symm e), ← Array.getD_eq_getD_getElem?]
        exact h i

theorem zip_fold (ps : Array Nat) (u : Array Value) (tm : Array Value) : (ps.zip u).foldl (fun t (q : Nat × Value) => t.setIfInBounds q.1 q.2) tm = (ps.toList.zip u.toList).foldl (fun tm q => tm.setIfInBounds q.1 q.2) tm := by
  rw [← Array.foldl_toList, Array.toList_zip]

theorem aw_rangeFunc {Q : Exit → St → Prop} {g : Operand} {ps : Array Tmp} {assign body : Code} {gf : Nat} {caps : List AV} (ys : List (List IV)) (l : List Nat) (Mem : Nat → List MO) (t' : Nat → AV)
    (hg : calleeOf (s.ev g) = some (gf, caps)) (hit : Iter P gf s.M caps l ys) (hp : Part s.M l (Mem 0)) (hb : ∀ i, i < s.b → l[i]? = some i) (ht : ∀ i, t' i = .any ∨ s.t i = ren (sg l s.M.length) (t' i))
    (hmut : ∀ o, o ∈ Mem 0 → o.mut = true) (hps : ∀ p, p ∈ ps.toList → p < s.n) (hsz : ∀ y, y ∈ ys → y.length = ps.size)
    (hround : ∀ i y, ys[i]? = some y → aw P assign (thenQ (fun s1 => aw P body (thenQ (fun s2 => Wk s2 ⟨s.n, fun _ => .any, Mem (i + 1), (Mem 0).length⟩) none2) s1) none2) ⟨s.n, setp t' (ps.toList.zip y), Mem i, (Mem 0).length⟩)
    (hk : Q .normal ⟨s.n, t', Mem ys.length, s.b⟩) : aw P (.rangeFunc g ps assign body) Q s := by
  intro rd hbd X O w0 F ρ a w hs
  cases rd with
  | some r => simp [bnd] at hbd
  | none =>
  simp only [bnd, Bool.and_eq_true, Option.isNone_none, true_and] at hbd
  -- the function
  obtain ⟨cvs, hcv, hcl, hcr⟩ : ∃ cvs : Array Value, a.eval g = .func (.func gf) #[] cvs ∧ cvs.size = caps.length ∧ ∀ (i : Nat) (y : AV) (z : Value), caps[i]? = some y → cvs[i]? = some z → RepA s.M ρ (excl X s.M ρ) w y z := by
    have hv := hs.ev g
    generalize s.ev g = y at hv hg
    unfold calleeOf at hg
    split at hg
    · cases hg; exact ⟨#[], inv_fnc hv, rfl, by simp⟩
    · cases hg
      obtain ⟨vs, h1, h2, h3⟩ := inv_fn hv
      exact ⟨vs, h1, h2, h3⟩
    · cases hg
  obtain ⟨hcall, hit⟩ := hit
  obtain ⟨us, Z, hul, hur, hZ, hgive⟩ := hit X O w0 w ρ cvs hs.mem hcl hcr
  obtain ⟨hmp, hEp⟩ := hs.mem.sel hp
  obtain ⟨l0, hl1, hl2, hl3⟩ := hs.defers
  -- the frames
  obtain ⟨F', hF'⟩ : ∃ F' : AV → Value → Prop, F' = fun x u => F x u ∨ (∃ j, x = t' j ∧ u = a.tmps.getD j undef) ∨ (∃ (i : Nat) (y : List IV) (u1 : Array Value) (j : Nat) (x1 : IV), ys[i]? = some y ∧ us[i]? = some u1 ∧ y[j]? = some x1 ∧ u1[j]? = some u ∧ x = .iv x1) := ⟨_, rfl⟩
  have hsL : s.b ≤ (Mem 0).length := by
    by_cases h0 : s.b = 0
    · omega
    · have := lt_of_get (hb (s.b - 1) (by omega)); rw [hp.len]; omega
  have htm0 : ∀ i, RepA (Mem 0) (partρ ρ l) (excl X (Mem 0) (partρ ρ l)) w (t' i) (a.tmps.getD i undef) := fun i => by
    rcases ht i with h | h
    · rw [h]; exact .any _
    · exact ((hs.tm i).part hp (t' i) h).mono (Evo.weak hEp)
  have hsim0 : Sim X O w0 F' ⟨s.n, t', Mem 0, (Mem 0).length⟩ (partρ ρ l) a w := by
    refine ⟨hs.size, hs.defers, htm0, hmp, fun x u hx => ?_⟩
    rw [hF'] at hx
    rcases hx with hx | ⟨j, rfl, rfl⟩ | ⟨i, y, u1, j, x1, h1, h2, h3, h4, rfl⟩
    · obtain ⟨h1, h2⟩ := hs.fr x u hx
      have hid : ren (sg l s.M.length) x = x := ren_id (fun i hi => by simp [sg, hb i hi]) h1
      exact ⟨h1.mono hsL, (h2.part hp x hid.symm).mono (Evo.weak hEp)⟩
    · exact ⟨(htm0 j).sc, htm0 j⟩
    · exact ⟨.iv _, .iv _ _ (((hur i y u1 h1 h2).2 j x1 u h3 h4).mono ⟨Nat.le_refl _, fun b _ hb => ⟨rfl, fun h' => hb (hEp b h')⟩⟩)⟩
  -- the statement
  refine wpIn_rangeFunc ?_
  intro fn hfn
  obtain ⟨rec, hrec⟩ : ∃ rec : LoopState → Option Code → Loop, rec = fun st pe => { state := st, pending := pe, fn, tmps := a.tmps, params := ps, assign, body, defers := w.heap.size } := ⟨_, rfl⟩
  obtain ⟨W1, hW1⟩ : ∃ W1, (w.alloc (Obj.deferred (some []))).alloc (.loop (rec .ready none)) = W1 := ⟨_, rfl⟩
  have hL1 : W1.heap[w.heap.size + 1]? = some (.loop (rec .ready none)) := by
    rw [← hW1]; have := World.alloc_heap_new (w.alloc (Obj.deferred (some []))) (.loop (rec .ready none)); rwa [World.size_alloc] at this
  have hK1 : W1.heap[w.heap.size]? = some (Obj.deferred (some [])) := by
    rw [← hW1]; exact (Below.heap_alloc _ _ _ (by simp)).trans (World.alloc_heap_new w _)
  have hw1 : ∀ b, b < w.heap.size → W1.heap[b]? = w.heap[b]? := fun b hb => by
    rw [← hW1]; exact (Below.heap_alloc _ _ _ (by simp; omega)).trans (Below.heap_alloc _ _ _ hb)
  have hal1 : Alike w W1 := by rw [← hW1]; exact (Alike.alloc w _).trans (Alike.alloc _ _)
  have hkp1 : Keep O w0 W1 := by
    refine hs.mem.keep.trans (O' := fun _ => False) ⟨by rw [← hW1]; rfl, by rw [← hW1]; rfl, by rw [← hW1]; rfl, hal1.size, fun b hb _ => hw1 b hb⟩ (fun _ _ h => h.elim)
  have hw0s : w0.heap.size ≤ w.heap.size := hs.mem.keep.size
  have hDfr : ∀ W : World, (∀ D, D ∈ w.heap.size :: l0 → W.heap[D]? = some (Obj.deferred (some []))) → Dfr X O w0 (marks (w.heap.size :: l0)) W := fun W hW =>
    ⟨_, rfl, List.nodup_cons.2 ⟨fun h => by
      have := (Array.getElem?_eq_some_iff.1 (hl3 _ h).2.2).1; omega, hl2⟩, fun D hD => by
      refine ⟨?_, ?_, hW D hD⟩
      · rcases List.mem_cons.1 hD with rfl | h
        · exact fun hX => Nat.lt_irrefl _ (hs.mem.ext _ hX)
        · exact (hl3 D h).1
      · rcases List.mem_cons.1 hD with rfl | h
        · exact .inr hw0s
        · exact (hl3 D h).2.1⟩
  have hmk1 : ∀ D, D ∈ w.heap.size :: l0 → W1.heap[D]? = some (Obj.deferred (some [])) := fun D hD => by
    rcases List.mem_cons.1 hD with rfl | h
    · exact hK1
    · have := (hl3 D h).2.2
      rw [hw1 D (Array.getElem?_eq_some_iff.1 this).1]; exact this
  have hZc : ∀ b, Z b → ∃ arr T fz, w.heap[b]? = some (.cells arr T fz) := fun b h => (hZ b h).1
  -- what holds between two rounds
  obtain ⟨I, hI⟩ : ∃ I : Nat → World → Prop, I = fun i W => (∃ ρ', Sim X O w0 F' ⟨s.n, t', Mem i, (Mem 0).length⟩ ρ' { a with defers := marks (w.heap.size :: l0) } W ∧ (∀ k b, k < (Mem i).length → ρ' k = some b → ¬ Z b)) ∧ (∀ b, Z b → W.heap[b]? = w.heap[b]?) := ⟨_, rfl⟩
  have hI0 : I 0 W1 := by
    rw [hI]
    refine ⟨⟨partρ ρ l, hsim0.alike hal1 hkp1 (hDfr W1 hmk1), fun k b hk hb hz => ?_⟩, fun b hz => ?_⟩
    · have hkl : k < l.length := by rw [← hp.len]; exact hk
      have e1 : l[k]? = some l[k] := List.getElem?_eq_getElem hkl
      obtain ⟨o, h1, h2⟩ := hp.of e1
      have h3 : ρ l[k] = some b := by rw [← partρ_get (ρ := ρ) e1]; exact hb
      exact (hZ b hz).2 l[k] _ (List.getElem_mem hkl) h2 (by rw [renMO_mut]; exact hmut o (List.mem_of_getElem? h1)) h3
    · obtain ⟨arr, T, fz, h⟩ := hZc b hz
      exact hw1 b (Array.getElem?_eq_some_iff.1 h).1
  refine ⟨w.heap.size + 1, [{ target := .collected w.heap.size, args := #[] }], W1, { target := .fn (.func gf) cvs, args := #[.func (.yield (w.heap.size + 1)) #[] #[]] }, W1, gf,
    #[.func (.yield (w.heap.size + 1)) #[] #[]] ++ cvs, W1, ?_, ?_, fun _ _ => fr_fn _ _, ?_, fun hh => by simp [fr_depth] at hh, ?_⟩
  · rw [← hW1, hrec]; exact run_enterLoop_outer _ _ _ _ _
  · simp only [resolve, hcv]
    simp [go_sem]
  · simp [invoke, go_sem, run_callFunc hcall]
  · refine (hgive (w.heap.size + 1) (fun i W => I i W ∧ W.heap[w.heap.size + 1]? = some (.loop (rec .ready none))) W1 (fun i W h => by have := h.1; rw [hI] at this; exact this.2) ?_ ?_ ⟨hI0, hL1⟩).mono ?_
    · rintro i Wa Wb ⟨h1, h2⟩ hbl
      rw [hI] at h1 ⊢
      obtain ⟨⟨ρ', hsi, hnz⟩, hzw⟩ := h1
      have hblk : ∀ {b : Nat} {o : Obj}, Wa.heap[b]? = some o → Wb.heap[b]? = Wa.heap[b]? := fun h => hbl.block _ (Array.getElem?_eq_some_iff.1 h).1
      refine ⟨⟨⟨ρ', hsi.alike ⟨hbl.size, fun b o hb _ => (hblk hb).trans hb⟩ (hsi.mem.keep.step hbl) (hsi.defers.keep (fun D _ hD => hblk hD)), hnz⟩, fun b hz => ?_⟩, (hblk h2).trans h2⟩
      obtain ⟨arr, T, fz, h⟩ := hZc b hz
      exact (hblk ((hzw b hz).trans h)).trans (hzw b hz)
    · -- a round
      rintro i u W hu ⟨hi, hl⟩
      rw [hI] at hi
      obtain ⟨⟨ρ', hsi, hnz⟩, hzw⟩ := hi
      have hil : i < ys.length := by rw [← hul]; exact lt_of_get hu
      obtain ⟨y, hy⟩ : ∃ y, ys[i]? = some y := ⟨_, List.getElem?_eq_getElem hil⟩
      have hus : u.size = ps.size := by rw [(hur i y u hy hu).1]; exact hsz y (List.mem_of_getElem? hy)
      have hyl := run_yield (P := P) (args := u) hl (by rw [hrec]; exact hus)
      rw [hrec] at hyl
      refine ⟨fn, _, assign, body, hyl, roundIn_of_wpIn (fr_fn _ _) ?_⟩
      have hmkW : ∀ D, D ∈ w.heap.size :: l0 → W.heap[D]? = some (Obj.deferred (some [])) := by
        obtain ⟨l', h1, h2, h3⟩ := hsi.defers
        have := marks_inj h1
        subst this
        exact fun D hD => (h3 D hD).2.2
      -- the slots at the round's start
      have hrs := setp_rep (w := W) (M := Mem i) (ρ := ρ') (E := excl X (Mem i) ρ') ps.toList y u.toList t' a.tmps (fun p hp' => by rw [hs.size]; exact hps p hp') (by simpa using (hur i y u hy hu).1) (fun j x v h1 h2 => by
        have h2' : u[j]? = some v := by simpa using h2
        have := (hsi.fr (.iv x) v (by rw [hF']; exact .inr (.inr ⟨i, y, u, j, x, hy, hu, h1, h2', rfl⟩))).2
        cases this with | iv _ _ h => exact h) hsi.tm
      have hst : Sim X O w0 F' ⟨s.n, setp t' (ps.toList.zip y), Mem i, (Mem 0).length⟩ ρ' { tmps := (ps.zip u).foldl (fun t (q : Nat × Value) => t.setIfInBounds q.1 q.2) a.tmps, defers := [] } W := by
        rw [zip_fold]
        exact ⟨by rw [hrs.2]; exact hs.size, Dfr.nil _ _ _ _, hrs.1, hsi.mem, hsi.fr⟩
      have hr := hround i y hy
      refine wpIn_mono (aw_sub hr (some (w.heap.size + 1)) hbd.1 hst) ?_
      rintro e a1 Wa ⟨s1, ρ1, hn1, hs1, hq1, hz1, hm1, hk1⟩
      cases e with
      | exit i => exact hq1.elim
      | goto i => exact hq1.elim
      | ret => exact hq1.elim
      | panic c => exact hq1.elim
      | outgrown => exact hq1.elim
      | normal =>
      replace hq1 := aw_wkend hq1
      have nm : ∀ b, Mine (Mem i) ρ' { tmps := (ps.zip u).foldl (fun t (q : Nat × Value) => t.setIfInBounds q.1 q.2) a.tmps, defers := [] } b → blocks (Mem i) ρ' b := by
        rintro b (h | ⟨l, h1, h2⟩)
        · exact h
        · have := marks_inj (l := []) h1
          subst this; simp at h2
      have hlW : w.heap.size + 1 < W.heap.size := (Array.getElem?_eq_some_iff.1 hl).1
      have nb : ∀ {b : Nat} {o : Obj}, W.heap[b]? = some o → dataO o = false → ¬ blocks (Mem i) ρ' b := by
        rintro b o h1 h2 ⟨k, hk, hb⟩
        obtain ⟨o', h3, h4⟩ := hsi.mem.data hk hb
        rw [h1] at h3; cases h3; rw [h2] at h4; cases h4
      have keep1 : ∀ b, b < W.heap.size → ¬ blocks (Mem i) ρ' b → Wa.heap[b]? = W.heap[b]? := fun b h1 h2 => hk1 b h1 (fun h => h2 (nm b h))
      have hla : Wa.heap[w.heap.size + 1]? = some (.loop (rec .ready none)) := (keep1 _ hlW (nb hl rfl)).trans hl
      have hZW : ∀ b, Z b → b < W.heap.size ∧ ∃ arr T fz, W.heap[b]? = some (.cells arr T fz) := fun b hz => by
        obtain ⟨arr, T, fz, h⟩ := hZc b hz
        have h2 := (hzw b hz).trans h
        exact ⟨(Array.getElem?_eq_some_iff.1 h2).1, arr, T, fz, h2⟩
      have nz1 : ∀ b, Z b → ¬ blocks (Mem i) ρ' b := fun b hz ⟨k, hk, hb⟩ => hnz k b hk hb hz
      have hza : ∀ b, Z b → Wa.heap[b]? = w.heap[b]? := fun b hz => (keep1 b (hZW b hz).1 (nz1 b hz)).trans (hzw b hz)
      have hmka : ∀ D, D ∈ w.heap.size :: l0 → Wa.heap[D]? = some (Obj.deferred (some [])) := fun D hD =>
        (keep1 D (Array.getElem?_eq_some_iff.1 (hmkW D hD)).1 (nb (hmkW D hD) rfl)).trans (hmkW D hD)
      refine ⟨_, run_beginRound hla (by rw [hrec]), ?_⟩
      have hlaS : w.heap.size + 1 < Wa.heap.size := (Array.getElem?_eq_some_iff.1 hla).1
      obtain ⟨W2, hW2⟩ : ∃ W2, Wa.putObj (w.heap.size + 1) (.loop { rec .ready none with state := .busy }) = W2 := ⟨_, rfl⟩
      rw [hW2]
      have hl2 : W2.heap[w.heap.size + 1]? = some (.loop { rec .ready none with state := .busy }) := by rw [← hW2]; exact World.putObj_heap_same hlaS
      have ho2 : ∀ b, b ≠ w.heap.size + 1 → W2.heap[b]? = Wa.heap[b]? := fun b hb => by rw [← hW2]; exact World.putObj_heap_other hb
      have hal2 : Alike Wa W2 := by rw [← hW2]; exact .put _ hla rfl
      have hsz2 : W2.heap.size = Wa.heap.size := by rw [← hW2]; simp
      have hs2 : Sim X O w0 F' s1 ρ1 a1 W2 := by
        refine hs1.alike (ds := a1.defers) hal2 (by rw [← hW2]; exact hs1.mem.keep.put _ (.inr (by omega))) (hs1.defers.keep (fun D _ hD => ho2 D (fun e => ?_)))
        rw [e, hla] at hD; cases hD
      refine wpIn_mono (aw_sub hq1 (some (w.heap.size + 1)) (by rw [hn1]; exact hbd.2) hs2) ?_
      rintro e a3 W3 ⟨s3, ρ3, hn3, hs3, hq3, hz3, hm3, hk3⟩
      cases e with
      | exit i => exact hq3.elim
      | goto i => exact hq3.elim
      | ret => exact hq3.elim
      | panic c => exact hq3.elim
      | outgrown => exact hq3.elim
      | normal =>
      obtain rfl : s3 = _ := hq3
      have mine2 : ∀ {b : Nat}, Mine s1.M ρ1 a1 b → blocks (Mem i) ρ' b ∨ W.heap.size ≤ b := fun h => by
        rcases hm1 _ h with h | h
        · exact .inl (nm _ h)
        · exact .inr h
      have hl3' : W3.heap[w.heap.size + 1]? = some (.loop { rec .ready none with state := .busy }) := by
        refine (hk3 _ (by omega) (fun h => ?_)).trans hl2
        rcases mine2 h with h | h
        · exact nb hl rfl h
        · omega
      have hend := run_endRound (P := P) none hl3'
      refine ⟨_, _, hend, rfl, ?_, ?_⟩
      · rw [hI]
        have hz3' : ∀ b, Z b → W3.heap[b]? = w.heap[b]? := fun b hz => by
          have h1 := hZW b hz
          have hne : b ≠ w.heap.size + 1 := fun e => by
            obtain ⟨arr, T, fz, h2⟩ := h1.2
            rw [e, hl] at h2; cases h2
          refine (hk3 b (by omega) (fun h => ?_)).trans ((ho2 b hne).trans (hza b hz))
          rcases mine2 h with h | h
          · exact nz1 b hz h
          · omega
        have hmk3 : ∀ D, D ∈ w.heap.size :: l0 → W3.heap[D]? = some (Obj.deferred (some [])) := fun D hD => by
          have h1 := hmkW D hD
          have hne : D ≠ w.heap.size + 1 := fun e => by rw [e, hl] at h1; cases h1
          have hlt := (Array.getElem?_eq_some_iff.1 h1).1
          refine (hk3 D (by omega) (fun h => ?_)).trans ((ho2 D hne).trans (hmka D hD))
          rcases mine2 h with h | h
          · exact nb h1 rfl h
          · omega
        have hs4 : Sim X O w0 F' ⟨s.n, t', Mem (i + 1), (Mem 0).length⟩ ρ3 { a with defers := marks (w.heap.size :: l0) } W3 :=
          ⟨hs.size, hDfr W3 hmk3, fun j => (hs3.fr (t' j) _ (by rw [hF']; exact .inr (.inl ⟨j, rfl, rfl⟩))).2, hs3.mem, hs3.fr⟩
        refine ⟨⟨ρ3, hs4.alike (.put _ hl3' rfl) (hs3.mem.keep.put _ (.inr (by omega))) ((hDfr W3 hmk3).keep (fun D _ hD => World.putObj_heap_other (fun e => by rw [e, hl3'] at hD; cases hD))), fun k b hk hb hz => ?_⟩, fun b hz => ?_⟩
        · have h1 := hZW b hz
          rcases hm3 b (.inl ⟨k, hk, hb⟩) with h | h
          · rcases mine2 h with h | h
            · exact nz1 b hz h
            · omega
          · omega
        · have hne : b ≠ w.heap.size + 1 := fun e => by
            obtain ⟨arr, T, fz, h2⟩ := (hZW b hz).2
            rw [e, hl] at h2; cases h2
          exact (World.putObj_heap_other hne).trans (hz3' b hz)
      · have := World.putObj_heap_same (o := .loop { rec .ready none with state := .ready, pending := none }) (Array.getElem?_eq_some_iff.1 hl3').1
        rw [hrec] at this ⊢
        exact this
    · -- behind the loop
      rintro e W2 ⟨⟨v, rfl⟩, hi, hl⟩
      rw [hI, hul] at hi
      obtain ⟨⟨ρ', hsi, _⟩, _⟩ := hi
      refine ⟨none, _, by have := run_endLoop (P := P) hl (by rw [hrec]; simp); rw [hrec] at this; exact this, ?_⟩
      have hs5 : Sim X O w0 F ⟨s.n, t', Mem ys.length, s.b⟩ ρ' { a with defers := marks (w.heap.size :: l0) } W2 :=
        ⟨hs.size, hsi.defers, hsi.tm, hsi.mem, fun x u hx => ⟨(hs.fr x u hx).1, (hsi.fr x u (by rw [hF']; exact .inl hx)).2⟩⟩
      have hds : ([{ target := .collected w.heap.size, args := #[] }] ++ a.defers : List Deferred) = marks (w.heap.size :: l0) := by rw [hl1]; rfl
      show conc X O w0 F s.n Q .normal { a with defers := _ } _
      rw [hds]
      exact ⟨⟨s.n, t', Mem ys.length, s.b⟩, ρ', rfl, hs5.alike (.put _ hl rfl) (hs5.mem.keep.put _ (.inr (by omega))) (hs5.defers.keep (fun D _ hD => World.putObj_heap_other (fun e => by rw [e, hl] at hD; cases hD))), hk⟩
end
/-! ### regions whose list literals are never written: the rules -/
section
variable {P : Program} {d : Option Tmp} {ty : TypeId} {pos : String} {af : Array Edge} {g : Option (Nat × Bool)} {ev : Operand → AV} {M : List MO}
def cwF (o : Oper) : Cls := match o.dst with
  | some k => if k = 1000001 then .r else if k = 1000002 then .w else .p
  | none => .p
theorem effF_bs (t : TypeId) (len : Nat) (parts : List (Nat × Operand)) : effF P ⟨d, .buildSlice t len parts.toArray, ty, pos, af, g⟩ ev M = (tElem P t).bind fun e => (constIV e.zero).bind fun z =>
      if len * e.sz ≤ 16777216 ∧ z.fits e.sz = true then
        (partsI (parts.map fun (i, x) => (i, ev x))).bind fun ps =>
          if ps.all (fun p => p.2.fits e.sz) then (fillRow (List.replicate len z) ps).map fun xs => (.p, .iv (.sl e.sz xs), M) else none
      else none := by
  simp only [effF, isBS, if_true, bfz]
  cases tElem P t with
  | none => rfl
  | some e =>
    simp only [Option.bind_some]
    cases constIV e.zero with
    | none => rfl
    | some z =>
      simp only [Option.bind_some]
      split
      · cases partsI (parts.map fun (i, x) => (i, ev x)) with
        | none => rfl
        | some ps =>
          simp only [Option.bind_some]
          split
          · rw [Option.map_map]; rfl
          · rfl
      · rfl
@[go_sem] theorem effF_def (o : Op) : effF P ⟨d, o, ty, pos, af, g⟩ ev M = (match o with
    | .buildSlice t len parts => (tElem P t).bind fun e => (constIV e.zero).bind fun z =>
      if len * e.sz ≤ 16777216 ∧ z.fits e.sz = true then
        (partsI (parts.toList.map fun (i, x) => (i, ev x))).bind fun ps =>
          if ps.all (fun p => p.2.fits e.sz) then (fillRow (List.replicate len z) ps).map fun xs => (.p, .iv (.sl e.sz xs), M) else none
      else none
    | o => eff P ⟨d, o, ty, pos, af, g⟩ ev M) := by
  cases o with
  | buildSlice t len parts =>
    obtain ⟨parts⟩ := parts
    exact effF_bs t len parts
  | _ => rfl
end
attribute [go_sem] partsI ivn
theorem aw_postE {P : Program} {c y : Code} {id : Nat} {Q Q' : Exit → St → Prop} {s : St} {β : Type} (E : β → St) (J : β → Prop) (h : aw P c (blockQ id (thenQ (fun s' => ∃ z, J z ∧ Wk s' (E z)) Q')) s) (k : ∀ z, J z → aw P y Q (E z)) :
    aw P c (blockQ id (thenQ (aw P y Q) Q')) s := by
  refine aw_mono h (fun e s' hq => ?_)
  cases e with
  | normal => obtain ⟨z, h1, h2⟩ := hq; exact aw_wk h2 (k z h1)
  | exit i =>
    simp only [blockQ] at hq ⊢
    split
    · rename_i hi
      rw [if_pos hi] at hq
      obtain ⟨z, h1, h2⟩ := hq; exact aw_wk h2 (k z h1)
    · rename_i hi
      rw [if_neg hi] at hq
      exact hq
  | goto i => exact hq
  | ret => exact hq
  | panic c => exact hq
  | outgrown => exact hq
theorem aw_cutE {P : Program} {c y : Code} {Q : Exit → St → Prop} {s : St} {β : Type} (E : β → St) (J : β → Prop) (h : aw P c (thenQ (fun s' => ∃ z, J z ∧ Wk s' (E z)) Q) s) (k : ∀ z, J z → aw P y Q (E z)) : aw P (.seq c y) Q s := by
  refine aw_seq (aw_mono h (fun e s' hq => ?_))
  cases e with
  | normal => obtain ⟨z, h1, h2⟩ := hq; exact aw_wk h2 (k z h1)
  | exit i => exact hq
  | goto i => exact hq
  | ret => exact hq
  | panic c => exact hq
  | outgrown => exact hq
end Go.Proofs.YtpjncojljamacaaGreat.AM
