
/- The abstract machine: maps, and what goes through maps and strings. No condition. -/
import Derived.Test.YtpjncojljamacaaGreatAA
import Derived.RangeFuncRecord
import Derived.Maps.RangeRun
import Derived.MapKept
set_option linter.unusedVariables false
set_option linter.unusedSimpArgs false
namespace Go.Proofs.YtpjncojljamacaaGreat.AM
open Go Go.RowKit
open Go.MapKept (bytes_beq)

section
variable {P : Program} {X O : Nat → Prop} {w0 : World} {M : List MO} {ρ : Nat → Option Nat} {E : Nat → Prop} {w : World}
theorem omap_some {α β : Type} {x : Option α} {f : α → β} {y : β} (h : x.map f = some y) : ∃ a, x = some a ∧ f a = y := by
  cases x with
  | none => cases h
  | some a => cases h; exact ⟨a, rfl, rfl⟩
theorem obind_some {α β : Type} {x : Option α} {f : α → Option β} {y : β} (h : x.bind f = some y) : ∃ a, x = some a ∧ f a = some y := by
  cases x with
  | none => cases h
  | some a => exact ⟨a, rfl, h⟩
def KeyOk (d : TypeDesc) (key : IV) : Prop := (∃ q k n, d = .int q ∧ key = .int k n) ∨ (∃ s, d = .string ∧ key = .str s)
theorem tMapK_spec {t e : TypeId} {kd : Kd} (h : tMapK P t = some (kd, e)) : ∃ k d, P.underlying t = some (.map k e) ∧ P.underlying k = some d ∧ ((∃ q, d = .int q) ∨ d = .string) ∧ ∀ x key, keyIV kd x = some key → x = .iv key ∧ KeyOk d key := by
  unfold tMapK at h
  split at h
  · rename_i k e' hu
    split at h
    · rename_i q hk
      cases h
      refine ⟨k, _, hu, tKind_int hk, .inl ⟨q, rfl⟩, fun x key hx => ?_⟩
      unfold keyIV at hx
      split at hx
      · cases hx; exact ⟨rfl, .inl ⟨_, _, _, rfl, rfl⟩⟩
      · rename_i hh; cases hh
      · cases hx
    · rename_i hk
      cases h
      refine ⟨k, _, hu, tKind_str hk, .inr rfl, fun x key hx => ?_⟩
      unfold keyIV at hx
      split at hx
      · rename_i hh; cases hh
      · cases hx; exact ⟨rfl, .inr ⟨_, rfl, rfl⟩⟩
      · cases hx
    · cases h
  · cases h
theorem run_checkKey {k : TypeId} {d : TypeDesc} (hd : P.underlying k = some d) (hk : (∃ q, d = .int q) ∨ d = .string) (b : Bool) (v : Value) : (Instr.checkKey b 10000 k v).run P w = .ok () w := by
  obtain ⟨n, hn⟩ : ∃ n, 10000 = n + 1 := ⟨_, rfl⟩
  rw [hn]
  rcases hk with ⟨q, rfl⟩ | rfl <;> simp [Instr.checkKey, run_underlying hd]
theorem sameNow_eq {d : TypeDesc} {key y : IV} {kv ev : Value} {r : Bool} (hk : KeyOk d key) (h1 : RepI E w key kv) (h2 : RepI E w y ev) (h : keyEq key y = some r) : Instr.sameNow d kv ev = some r ∧ (r = true → ev = kv) := by
  rcases hk with ⟨q, k, n, rfl, rfl⟩ | ⟨s, rfl, rfl⟩
  · cases h1
    cases y with
    | int k' n' =>
      cases h2
      simp only [keyEq] at h
      split at h
      · rename_i e
        subst e
        cases h
        refine ⟨by simp [Instr.sameNow]; exact Bool.eq_iff_iff.2 (by simp), fun hr => ?_⟩
        rw [decide_eq_true_eq] at hr; rw [hr]
      · cases h
    | _ => cases h
  · cases h1
    cases y with
    | str s' =>
      cases h2
      simp only [keyEq] at h
      cases h
      refine ⟨?_, fun hr => by rw [decide_eq_true_eq] at hr; rw [hr]⟩
      simp only [Instr.sameNow]
      by_cases e : s = s'
      · rw [decide_eq_true e, (bytes_beq s s').2 e]
      · rw [decide_eq_false e]
        cases hb : s == s' with
        | false => rfl
        | true => exact absurd ((bytes_beq s s').1 hb) e
    | _ => cases h
theorem findNow_eq {d : TypeDesc} {key : IV} {kv : Value} (hk : KeyOk d key) (h1 : RepI E w key kv) : ∀ (l : List MapEntry) (ks : List IV) (i : Nat) (r : Option Nat), l.length = ks.length →
    (∀ (j : Nat) (e : MapEntry) (y : IV), l[j]? = some e → ks[j]? = some y → RepI E w y e.key) → findK key ks i = some r →
    match r with
    | none => Instr.findNow d kv l i = some none
    | some j => ∃ e, i ≤ j ∧ l[j - i]? = some e ∧ e.key = kv ∧ Instr.findNow d kv l i = some (some (j, e.val))
  | [], [], i, r, _, _, h => by cases h; rfl
  | [], _ :: _, _, _, hl, _, _ => by simp at hl
  | _ :: _, [], _, _, hl, _, _ => by simp at hl
  | e :: l, k :: ks, i, r, hl, hr, h => by
    simp only [findK] at h
    have h2 := hr 0 e k rfl rfl
    split at h
    · rename_i he
      cases h
      obtain ⟨g1, g2⟩ := sameNow_eq hk h1 h2 he
      exact ⟨e, Nat.le_refl _, by simp, g2 rfl, by simp [Instr.findNow, g1]⟩
    · rename_i he
      obtain ⟨g1, g2⟩ := sameNow_eq hk h1 h2 he
      have ih := findNow_eq hk h1 l ks (i + 1) r (by simpa using hl) (fun j e y he hy => hr (j + 1) e y (by simpa using he) (by simpa using hy)) h
      cases r with
      | none => simp only at ih ⊢; simp [Instr.findNow, g1, ih]
      | some j =>
        obtain ⟨e', q1, q2, q3, q4⟩ := ih
        refine ⟨e', by omega, ?_, q3, by simp [Instr.findNow, g1, q4]⟩
        rw [show j - i = (j - (i + 1)) + 1 by omega, List.getElem?_cons_succ]
        exact q2
    · cases h
theorem run_findKey' {k : TypeId} {d : TypeDesc} (hd : P.underlying k = some d) {kv : Value} {l : List MapEntry} {a : Option (Nat × Value)} (h : Instr.findNow d kv l 0 = some a) : (Instr.findKey k kv l).run P w = .ok a w := by
  simp [Instr.findKey, run_underlying hd, h]
def MapIs (M : List MO) (ρ : Nat → Option Nat) (E : Nat → Prop) (w : World) (ks : List IV) (vs : List AV) (v : Value) : Prop :=
  (v = .map none ∧ ks = [] ∧ vs = []) ∨ ∃ b es clock, v = .map (some b) ∧ w.heap[b]? = some (.map es clock) ∧ MapOk es clock ∧ es.size = ks.length ∧ es.size = vs.length ∧
    (∀ (i : Nat) (e : MapEntry) (y : IV), es[i]? = some e → ks[i]? = some y → RepI E w y e.key) ∧ (∀ (i : Nat) (e : MapEntry) (y : AV), es[i]? = some e → vs[i]? = some y → RepA M ρ E w y e.val)
theorem mapOf_sound (hm : MemOk X O w0 M ρ w) {x : AV} {v : Value} {ks : List IV} {vs : List AV} (hx : RepA M ρ (excl X M ρ) w x v) (h : mapOf M x = some (ks, vs)) : MapIs M ρ (excl X M ρ) w ks vs v := by
  unfold mapOf at h
  split at h
  · cases h
    cases hx with | iv _ _ hx =>
    cases hx with
    | map0 => exact .inl ⟨rfl, rfl, rfl⟩
    | map _ _ b es clock hE hb hmk hk hv hrk hrv =>
      refine .inr ⟨b, es, clock, rfl, hb, hmk, hk, by rw [List.length_map]; exact hv, hrk, fun i e y he hy => ?_⟩
      rw [List.getElem?_map] at hy
      obtain ⟨z, hz, rfl⟩ := omap_some hy
      exact .iv _ _ (hrv i e z he hz)
  · split at h
    · rename_i m ks' vs' hM
      cases h
      obtain ⟨d, b, h1, _, hb, rfl⟩ := inv_mr hx
      obtain ⟨b', hb', es, clock, g1, g2, g3, g4, g5, g6⟩ := hm.obj _ _ hM
      rw [hb] at hb'; cases hb'
      exact .inr ⟨b, es, clock, rfl, g1, g2, g3, g4, g5, g6⟩
    · cases h
  · cases h
theorem tZero_spec {t : TypeId} {z : Value} (h : tZero P t = some z) : (zeroValue t).run P w = .ok z w := by
  unfold tZero at h
  obtain ⟨i, hi, hz⟩ := obind_some h
  exact run_zeroValue hi hz w
theorem lookup_sound (hm : MemOk X O w0 M ρ w) {t : TypeId} {kd : Kd} {e : TypeId} (ht : tMapK P t = some (kd, e)) {x i : AV} {xv iv : Value} (hx : RepA M ρ (excl X M ρ) w x xv) (hi : RepA M ρ (excl X M ρ) w i iv)
    {key : IV} (hkey : keyIV kd i = some key) {ks : List IV} {vs : List AV} (hmp : mapOf M x = some (ks, vs)) {r : Option Nat} (hf : findK key ks 0 = some r) {v : AV} {b : Bool} (hl : lookAV P e vs r = some (v, b)) (ok : Bool) :
    ∃ u, (Instr.lookup t xv iv ok).run P w = .ok u w ∧ RepA M ρ (excl X M ρ) w (okAV ok v b) u := by
  obtain ⟨k, d, hu, hd, hk, hkk⟩ := tMapK_spec ht
  obtain ⟨rfl, hko⟩ := hkk _ _ hkey
  cases hi with | iv _ _ hi =>
  have hck := fun e => run_checkKey (w := w) hd hk e iv
  have fin : ∀ (u : Value), RepA M ρ (excl X M ρ) w v u → RepA M ρ (excl X M ρ) w (okAV ok v b) (if ok then .tuple #[u, .bool b] else u) := fun u hu => by
    cases ok
    · exact hu
    · refine .tup _ _ rfl (fun i y z hy hz => ?_)
      match i with
      | 0 => simp at hy hz; subst hy hz; exact hu
      | 1 => simp at hy hz; subst hy hz; exact .iv _ _ (.bool b)
      | i + 2 => simp at hy
  have zro : r = none → ∃ z, (zeroValue e).run P w = .ok z w ∧ RepA M ρ (excl X M ρ) w v z ∧ b = false := fun hr => by
    subst hr
    obtain ⟨v', h1, h2⟩ := omap_some hl
    cases h2
    obtain ⟨z, h3, h4⟩ := obind_some h1
    obtain ⟨z', h5, rfl⟩ := omap_some h4
    exact ⟨z, tZero_spec h3, .iv _ _ (constIV_sound h5).1, rfl⟩
  rcases mapOf_sound hm hx hmp with ⟨rfl, rfl, rfl⟩ | ⟨bl, es, clock, rfl, hb, hmk, hlk, hlv, hrk, hrv⟩
  · cases hf
    obtain ⟨z, h1, h2, rfl⟩ := zro rfl
    refine ⟨_, ?_, fin z h2⟩
    have hfk := run_findKey' (P := P) (w := w) hd (kv := iv) (l := []) (a := none) rfl
    cases ok <;> simp [Instr.lookup, run_underlying hu, hck, hfk, h1]
  · have hfn := findNow_eq hko hi es.toList ks 0 r (by simpa using hlk) (fun j e y he hy => hrk j e y (by simpa using he) hy) hf
    cases r with
    | none =>
      obtain ⟨z, h1, h2, rfl⟩ := zro rfl
      refine ⟨_, ?_, fin z h2⟩
      have hfk := run_findKey' (P := P) (w := w) hd hfn
      cases ok <;> simp [Instr.lookup, run_underlying hu, getObj, Sem.run, hb, Result.andThen, hck, hfk, h1]
    | some j =>
      obtain ⟨e', _, h2, _, h4⟩ := hfn
      obtain ⟨v', h5, h6⟩ := omap_some hl
      cases h6
      have hfk := run_findKey' (P := P) (w := w) hd h4
      refine ⟨_, ?_, fin e'.val (hrv j e' _ (by simpa using h2) h5)⟩
      cases ok <;> simp [Instr.lookup, run_underlying hu, getObj, Sem.run, hb, Result.andThen, hck, hfk]
theorem wrote_put {b : Nat} {o : Obj} (h : w.heap[b]? = some o) (o' : Obj) : Wrote w (w.putObj b o') b :=
  ⟨rfl, rfl, rfl, by simp [World.putObj], fun j hj => World.putObj_heap_other hj⟩
theorem run_setObj_map' {b : Nat} {es : Array MapEntry} {clock : Nat} (h : w.heap[b]? = some (.map es clock)) (o : Obj) : (setObj b o).run P w = .ok () (w.putObj b o) := by simp [setObj, Sem.run, h, World.putObj]
theorem run_setObj_siter {b pos : Nat} {t : ByteArray} (h : w.heap[b]? = some (.stringIter t pos)) (o : Obj) : (setObj b o).run P w = .ok () (w.putObj b o) := by simp [setObj, Sem.run, h, World.putObj]
theorem sameBits_key {d : TypeDesc} {key : IV} {kv : Value} (hk : KeyOk d key) (h : RepI E w key kv) (n : Nat) : Instr.sameBits n kv kv = true := by
  rcases hk with ⟨q, k, m, rfl, rfl⟩ | ⟨s, rfl, rfl⟩
  · cases h; cases n <;> simp [Instr.sameBits]
  · cases h; cases n <;> simp [Instr.sameBits, (bytes_beq _ _).2]
theorem update_sound (hm : MemOk X O w0 M ρ w) {t : TypeId} {kd : Kd} {e : TypeId} (ht : tMapK P t = some (kd, e)) {j : Nat} {ka va : AV} {xv kv vv : Value} (hx : RepA M ρ (excl X M ρ) w (.mr j) xv) (hk : RepA M ρ (excl X M ρ) w ka kv)
    (hv : RepA M ρ (excl X M ρ) w va vv) {key : IV} (hkey : keyIV kd ka = some key) {ks : List IV} {vs : List AV} (hM : M[j]? = some (.obj (.map true ks vs))) {r : Option Nat} (hf : findK key ks 0 = some r) :
    StepOk P X O w0 M ρ w .any (M.set j (.obj (updM key va ks vs r))) ((do Instr.mapUpdate t xv kv vv; pure Next.skip : Sem Next).run P w) := by
  obtain ⟨k, d, hu, hd, hkk, hkx⟩ := tMapK_spec ht
  obtain ⟨rfl, hko⟩ := hkx _ _ hkey
  cases hk with | iv _ _ hk =>
  have hck := run_checkKey (w := w) hd hkk false kv
  obtain ⟨d', b, h1, _, hb, rfl⟩ := inv_mr hx
  obtain ⟨b', hb', es, clock, g1, g2, g3, g4, g5, g6⟩ := hm.obj _ _ hM
  rw [hb] at hb'; cases hb'
  have hfn := findNow_eq hko hk es.toList ks 0 r (by simpa using g3) (fun j e y he hy => g5 j e y (by simpa using he) hy) hf
  have hlt : b < w.heap.size := (Array.getElem?_eq_some_iff.1 g1).1
  have fin : ∀ (es' : Array MapEntry) (clock' : Nat) (ks' : List IV) (vs' : List AV), updM key va ks vs r = .map true ks' vs' → MapOk es' clock' → es'.size = ks'.length → es'.size = vs'.length →
      (∀ (i : Nat) (e : MapEntry) (y : IV), es'[i]? = some e → ks'[i]? = some y → RepI (excl X M ρ) w y e.key) → (∀ (i : Nat) (e : MapEntry) (y : AV), es'[i]? = some e → vs'[i]? = some y → RepA M ρ (excl X M ρ) w y e.val) →
      (Instr.mapUpdate t (.map (some b)) kv vv).run P w = .ok () (w.putObj b (.map es' clock')) →
      StepOk P X O w0 M ρ w .any (M.set j (.obj (updM key va ks vs r))) ((do Instr.mapUpdate t (.map (some b)) kv vv; pure Next.skip : Sem Next).run P w) := by
    intro es' clock' ks' vs' hu' q1 q2 q3 q4 q5 hrun
    rw [hu']
    have hev : Evo M (M.set j (.obj (.map true ks' vs'))) ρ ρ (excl X M ρ) (excl X (M.set j (.obj (.map true ks' vs'))) ρ) w (w.putObj b (.map es' clock')) := Evo.set j b _ _ hM hb rfl (wrote_put g1 _) rfl (hm.other (lt_of_get hM) hb)
    refine ⟨.skip, undef, _, ρ, urun hrun, .inr ⟨rfl, rfl⟩, .any _, ?_, hev⟩
    refine hm.set j b _ _ hM hb (wrote_put g1 _) hev ⟨b, hb, es', clock', World.putObj_heap_same hlt, q1, q2, q3, fun i e y he hy => ?_, fun i e y he hy => (q5 i e y he hy).mono hev⟩
    exact (q4 i e y he hy).mono hev.stay
  cases r with
  | none =>
    have hfk := run_findKey' (P := P) (w := w) hd hfn
    refine fin (es.push { key := kv, val := vv, born := clock }) (clock + 1) (ks ++ [key]) (vs ++ [va]) rfl ⟨by rw [Array.size_push, g2.1], fun i e he => ?_⟩ (by simp [g3]) (by simp [g4]) (fun i e y he hy => ?_) (fun i e y he hy => ?_) ?_
    · rw [Array.getElem?_push] at he
      split at he
      · rename_i hi; cases he; rw [hi]; exact g2.1
      · exact g2.2 i e he
    · rw [Array.getElem?_push] at he
      split at he
      · rename_i hi
        cases he
        rw [List.getElem?_append_right (by omega), show i - ks.length = 0 by omega] at hy
        cases hy; exact hk
      · rename_i hi
        have hlt := (Array.getElem?_eq_some_iff.1 he).1
        rw [List.getElem?_append_left (by omega)] at hy
        exact g5 i e y he hy
    · rw [Array.getElem?_push] at he
      split at he
      · rename_i hi
        cases he
        rw [List.getElem?_append_right (by omega), show i - vs.length = 0 by omega] at hy
        cases hy; exact hv
      · rename_i hi
        have hlt := (Array.getElem?_eq_some_iff.1 he).1
        rw [List.getElem?_append_left (by omega)] at hy
        exact g6 i e y he hy
    · simp [Instr.mapUpdate, run_underlying hu, getObj, Sem.run, g1, Result.andThen, hck, hfk, run_setObj_map' g1]
  | some i0 =>
    obtain ⟨e0, _, h2, h3, h4⟩ := hfn
    have hfk := run_findKey' (P := P) (w := w) hd h4
    have he0 : es[i0]? = some e0 := by simpa using h2
    have hsb := sameBits_key hko hk 10000
    refine fin (es.modify i0 fun e => { e with key := kv, val := vv }) clock ks (vs.set i0 va) rfl ⟨by rw [Array.size_modify, g2.1], fun i e he => ?_⟩ (by rw [Array.size_modify, g3]) (by rw [Array.size_modify, List.length_set, g4]) (fun i e y he hy => ?_) (fun i e y he hy => ?_) ?_
    · rw [Array.getElem?_modify] at he
      split at he
      · rename_i hi
        obtain ⟨e1, h5, rfl⟩ := omap_some he
        exact g2.2 i e1 h5
      · exact g2.2 i e he
    · rw [Array.getElem?_modify] at he
      split at he
      · rename_i hi
        subst hi
        obtain ⟨e1, h5, rfl⟩ := omap_some he
        have := g5 _ e1 y h5 hy
        rw [he0] at h5; cases h5
        rw [h3] at this; exact this
      · exact g5 i e y he hy
    · rw [Array.getElem?_modify] at he
      split at he
      · rename_i hi
        subst hi
        obtain ⟨e1, h5, rfl⟩ := omap_some he
        have hlt := lt_of_get hy
        rw [List.getElem?_set_self (by simpa using hlt)] at hy
        cases hy; exact hv
      · rename_i hi
        rw [List.getElem?_set_ne hi] at hy
        exact g6 i e y he hy
    · simp [Instr.mapUpdate, Instr.keyThatStays, run_underlying hu, getObj, Sem.run, g1, Result.andThen, hck, hfk, he0, h3, hsb, run_setObj_map' g1]
theorem step_newobj (hm : MemOk X O w0 M ρ w) (d : OD) (o : Obj) (u : Value) {r : Result Next} {x : AV} (hx : x = .mr M.length ∧ d.isMap = true ∧ u = .map (some w.heap.size) ∨ x = .it M.length ∧ d.isMap = false ∧ u = .pointer (some ⟨w.heap.size, 0, none⟩))
    (hd : ∀ M' ρ' E', Evo M M' ρ ρ' (excl X M ρ) E' w (w.alloc o) → OdRep M' ρ' E' (w.alloc o) w.heap.size d) (hr : r = .ok (.value u) (w.alloc o)) : StepOk P X O w0 M ρ w x (M ++ [.obj d]) r := by
  have hn := News.alloc w o
  have hs : w.heap.size ≤ (w.alloc o).heap.size := by rw [hn.size]; omega
  have hev := Evo.push (X := X) (M := M) (ρ := ρ) (w := w) (w' := w.alloc o) (.obj d) (some w.heap.size) hs (fun j hj => hn.old hj) (fun x hx => by cases hx; exact Nat.le_refl _)
  refine ⟨.value u, u, _, _, hr, .inl rfl, ?_, hm.push (.obj d) (some w.heap.size) (hn.keep hm.keep) hs (fun j hj => hn.old hj) (fun x hx => by cases hx; exact Nat.le_refl _) ⟨w.heap.size, updρ_same _ _ _, hd _ _ _ hev⟩, hev⟩
  rcases hx with ⟨rfl, h1, rfl⟩ | ⟨rfl, h1, rfl⟩
  · exact .mr _ d _ (by simp) h1 (updρ_same _ _ _)
  · exact .it _ d _ (by simp) h1 (updρ_same _ _ _)
theorem borns {es : Array MapEntry} {clock : Nat} (h : MapOk es clock) : (es.toList.map (·.born)).Nodup := by
  have e : es.toList.map (·.born) = List.range es.size := by
    apply List.ext_getElem? 
    intro i
    rw [List.getElem?_map]
    by_cases hi : i < es.size
    · have h1 : es[i]? = some es[i] := Array.getElem?_eq_getElem hi
      have := h.2 i _ h1
      simp [hi, this]
    · simp [hi]
  rw [e]; exact List.nodup_range
theorem left_none {es : Array MapEntry} {clock : Nat} (h : MapOk es clock) {sn : List Nat} (hs : ∀ i, i < es.size → i ∈ sn) : (leftOf es sn.toArray).size = 0 := by
  unfold leftOf
  rw [Array.size_eq_zero_iff, Array.filter_eq_empty_iff]
  intro e he
  obtain ⟨i, hi, rfl⟩ := Array.getElem_of_mem he
  have := h.2 i _ (Array.getElem?_eq_getElem hi)
  rw [this]
  simpa using hs i hi
theorem miter_at (hm : MemOk X O w0 M ρ w) {k : Nat} {y : AV} {n : Nat} {sn : List Nat} {v : Value} (hx : RepA M ρ (excl X M ρ) w (.it k) v) (hM : M[k]? = some (.obj (.miter y n sn))) {ks : List IV} {vs : List AV} (hmp : mapOf M y = some (ks, vs)) (hn : ks.length = n) :
    ∃ r, ρ k = some r ∧ v = .pointer (some ⟨r, 0, none⟩) ∧ ((n = 0 ∧ ks = [] ∧ w.heap[r]? = some (.mapIter none n sn.toArray n)) ∨ ∃ bm es clock, w.heap[r]? = some (.mapIter (some bm) n sn.toArray n) ∧ w.heap[bm]? = some (.map es clock) ∧ MapOk es clock ∧ es.size = n ∧ clock = n ∧ es.size = ks.length ∧ es.size = vs.length ∧
      (∀ (i : Nat) (e : MapEntry) (y : IV), es[i]? = some e → ks[i]? = some y → RepI (excl X M ρ) w y e.key) ∧ (∀ (i : Nat) (e : MapEntry) (y : AV), es[i]? = some e → vs[i]? = some y → RepA M ρ (excl X M ρ) w y e.val)) := by
  obtain ⟨d, r, h1, _, hr, rfl⟩ := inv_it hx
  obtain ⟨r', hr', o, g1, g2⟩ := hm.obj _ _ hM
  rw [hr] at hr'; cases hr'
  refine ⟨r, hr, rfl, ?_⟩
  rcases mapOf_sound hm g2 hmp with ⟨e, rfl, rfl⟩ | ⟨bm, es, clock, e, q1, q2, q3, q4, q5, q6⟩
  · cases e; exact .inl ⟨hn.symm, rfl, g1⟩
  · cases e; exact .inr ⟨bm, es, clock, g1, q1, q2, by omega, by rw [q2.1]; omega, q3, q4, q5, q6⟩
theorem effM_sound (hm : MemOk X O w0 M ρ w) (o : Oper) (ev : Operand → AV) (rv : Operand → Value) (hev : ∀ x, RepA M ρ (excl X M ρ) w (ev x) (rv x)) {c : Cls} {v : AV} {M' : List MO} (h : effM P o ev M = some (c, v, M')) :
    StepOk P X O w0 M ρ w v M' ((execOp rv o).run P w) := by
  obtain ⟨dst, op, type, pos, after, guard⟩ := o
  unfold effM at h
  split at h
  · -- makeMap
    rename_i t he
    simp only at he
    subst he
    obtain ⟨_, _, h⟩ := omap_some h
    cases h
    refine step_newobj hm (.map true [] []) (.map #[] 0) (.map (some w.heap.size)) (.inl ⟨rfl, rfl, rfl⟩) (fun M' ρ' E' hE => ⟨#[], 0, (News.alloc w _).new, ⟨rfl, by simp⟩, rfl, rfl, by simp, by simp⟩) ?_
    simp only [execOp]
    exact vrun (by simp [Instr.makeMap])
  · -- lookup
    rename_i t x i ok he
    simp only at he
    subst he
    obtain ⟨⟨kd, e⟩, ht, h⟩ := obind_some h
    obtain ⟨key, hkey, h⟩ := obind_some h
    obtain ⟨⟨ks, vs⟩, hmp, h⟩ := obind_some h
    obtain ⟨r, hf, h⟩ := obind_some h
    obtain ⟨⟨v', b⟩, hl, h⟩ := omap_some h
    cases h
    obtain ⟨u, h1, h2⟩ := lookup_sound hm ht (hev x) (hev i) hkey hmp hf hl ok
    refine StepOk.same hm (u := u) ?_ h2
    simp only [execOp]
    exact vrun h1
  · -- mapUpdate
    rename_i t m k x he
    simp only at he
    subst he
    obtain ⟨⟨kd, e⟩, ht, h⟩ := obind_some h
    obtain ⟨key, hkey, h⟩ := obind_some h
    split at h
    · rename_i j hj
      split at h
      · rename_i ks vs hM
        obtain ⟨r, hf, h⟩ := omap_some h
        cases h
        have hx := hev m
        rw [hj] at hx
        simp only [execOp]
        exact update_sound hm ht hx (hev k) (hev x) hkey hM hf
      · cases h
    · cases h
  · -- range
    rename_i t x he
    simp only at he
    subst he
    split at h
    · rename_i s ht hs
      cases h
      have hx := hev x
      rw [hs] at hx
      refine step_newobj hm (.siter s 0) (.stringIter s 0) (.pointer (some ⟨w.heap.size, 0, none⟩)) (.inr ⟨rfl, rfl, rfl⟩) (fun M' ρ' E' hE => (News.alloc w _).new) ?_
      simp only [execOp]
      refine vrun ?_
      rw [inv_str hx]
      simp [Instr.range, run_underlying (tKind_str ht)]
    · rename_i ht
      obtain ⟨⟨ks, vs⟩, hmp, h⟩ := omap_some h
      cases h
      have hu : ∃ k e, P.underlying t = some (.map k e) := by
        unfold tKind at ht
        split at ht <;> first | (cases ht; done) | skip
        exact ⟨_, _, by assumption⟩
      obtain ⟨k, e, hu⟩ := hu
      have hx := hev x
      rcases mapOf_sound hm hx hmp with ⟨hv, rfl, rfl⟩ | ⟨b, es, clock, hv, q1, q2, q3, q4, q5, q6⟩
      · rw [hv] at hx
        refine step_newobj hm (.miter (ev x) 0 []) (.mapIter none 0 #[] 0) (.pointer (some ⟨w.heap.size, 0, none⟩)) (.inr ⟨rfl, rfl, rfl⟩) (fun M' ρ' E' hE => ⟨none, (News.alloc w _).new, hx.mono hE⟩) ?_
        simp only [execOp]
        refine vrun ?_
        rw [hv]
        simp [Instr.range, run_underlying hu]
      · rw [hv] at hx
        have hc : clock = ks.length := by rw [q2.1, q3]
        subst hc
        refine step_newobj hm (.miter (ev x) ks.length []) (.mapIter (some b) ks.length #[] ks.length) (.pointer (some ⟨w.heap.size, 0, none⟩)) (.inr ⟨rfl, rfl, rfl⟩) (fun M' ρ' E' hE => ⟨some b, (News.alloc w _).new, hx.mono hE⟩) ?_
        simp only [execOp]
        refine vrun ?_
        rw [hv]
        simp [Instr.range, run_underlying hu, getObj, Sem.run, q1, Result.andThen]
    · cases h
  · -- next of a string
    rename_i x he
    simp only at he
    subst he
    unfold nextV at h
    split at h
    · rename_i k hk
      have hx := hev x
      rw [hk] at hx
      split at h
      · rename_i s pos hM
        obtain ⟨d, r, h1, _, hr, hv⟩ := inv_it hx
        obtain ⟨r', hr', g⟩ := hm.obj _ _ hM
        rw [hr] at hr'; cases hr'
        have g : w.heap[r]? = some (.stringIter s pos) := g
        have hlt : r < w.heap.size := (Array.getElem?_eq_some_iff.1 g).1
        split at h
        · rename_i hp
          cases h
          have hE := Evo.set (X := X) k r (.obj (.siter s pos)) (.obj (.siter s (pos + (Utf8.decode s pos).2))) hM hr rfl (wrote_put g (.stringIter s (pos + (Utf8.decode s pos).2))) rfl (hm.other (lt_of_get hM) hr)
          refine ⟨.value (.tuple #[.bool true, .int .i64 pos, .int .i32 (Utf8.decode s pos).1]), _, _, ρ, ?_, .inl rfl, .iv _ _ (.tup _ _ rfl ?_), hm.set k r _ _ hM hr (wrote_put g _) hE ⟨r, hr, World.putObj_heap_same hlt⟩, hE⟩
          · simp only [execOp]
            refine vrun ?_
            rw [hv]
            simp [Instr.next, getObj, Sem.run, g, Result.andThen, hp, run_setObj_siter g, goInt]
          · intro i y z hy hz
            match i with
            | 0 => simp at hy hz; subst hy hz; exact .bool _
            | 1 => simp at hy hz; subst hy hz; exact .int _ _
            | 2 => simp at hy hz; subst hy hz; exact .int _ _
            | i + 3 => simp at hy
        · rename_i hp
          cases h
          refine StepOk.same hm (u := .tuple #[.bool false]) ?_ (.iv _ _ (.tup _ _ rfl ?_))
          · simp only [execOp]
            refine vrun ?_
            rw [hv]
            simp [Instr.next, getObj, Sem.run, g, Result.andThen, hp]
          · intro i y z hy hz
            match i with
            | 0 => simp at hy hz; subst hy hz; exact .bool _
            | i + 1 => simp at hy
      · cases h
    · cases h
  · -- the end of a map
    rename_i x he
    simp only at he
    subst he
    unfold nextEV at h
    split at h
    · rename_i k hk
      have hx := hev x
      rw [hk] at hx
      split at h
      · rename_i y n sn hM
        obtain ⟨⟨ks, vs⟩, hmp, h⟩ := obind_some h
        simp only at h
        split at h
        · rename_i hc
          obtain ⟨hc1, hc2⟩ := hc
          cases h
          obtain ⟨r, hr, hv, hh⟩ := miter_at hm hx hM hmp hc1
          refine StepOk.same hm (u := .tuple #[.bool false]) ?_ (.iv _ _ (.tup _ _ rfl ?_))
          · simp only [execOp]
            refine vrun ?_
            rw [hv]
            rcases hh with ⟨_, _, g⟩ | ⟨bm, es, clock, g1, g2, g3, g4, g5, _⟩
            · simp [Instr.next, getObj, Sem.run, g, Result.andThen]
            · have hl := left_none g3 (sn := sn) (by rw [g4]; exact hc2)
              rcases run_next_at (P := P) w type r bm n n sn.toArray es clock g1 g2 (fun x hx => by
                obtain ⟨i, hi, rfl⟩ := List.getElem_of_mem hx
                have := g3.2 i _ (Array.getElem?_eq_getElem (by simpa using hi))
                simp at hi ⊢
                rw [this]; omega) (Nat.le_refl _) with ⟨_, h⟩ | ⟨e, he, _⟩
              · exact h
              · have h0 : leftOf es sn.toArray = #[] := Array.size_eq_zero_iff.1 hl
                rw [h0] at he; simp at he
          · intro i y z hy hz
            match i with
            | 0 => simp at hy hz; subst hy hz; exact .bool _
            | i + 1 => simp at hy
        · cases h
      · cases h
    · cases h
  · -- entry
    rename_i x he
    simp only at he
    subst he
    split at h
    · rename_i k hk
      have hx := hev x
      rw [hk] at hx
      split at h
      · rename_i y n sn hM
        obtain ⟨⟨ks, vs⟩, hmp, h⟩ := obind_some h
        simp only at h
        split at h
        · rename_i hc
          obtain ⟨i, hi, h⟩ := obind_some h
          obtain ⟨key, hkey, h⟩ := obind_some h
          obtain ⟨v', hv', h⟩ := omap_some h
          cases h
          obtain ⟨r, hr, hv, hh⟩ := miter_at hm hx hM hmp hc
          rcases hh with ⟨_, rfl, _⟩ | ⟨bm, es, clock, g1, g2, g3, g4, g5, g6, g7, g8, g9⟩
          · simp at hkey
          · have hlt : i < es.size := by have := lt_of_get hkey; omega
            have h1 : es[i]? = some es[i] := Array.getElem?_eq_getElem hlt
            have hb := g3.2 i _ h1
            have hsn : sn.toArray = (sn.dropLast.toArray).push es[i].born := by
              rw [hb]
              obtain ⟨hne, hgl⟩ : ∃ hne, sn.getLast hne = i := by
                cases sn with
                | nil => simp at hi
                | cons a l => exact ⟨by simp, by rw [List.getLast?_eq_some_getLast (by simp)] at hi; exact Option.some.inj hi⟩
              have := List.dropLast_concat_getLast hne
              rw [hgl] at this
              conv => lhs; rw [← this]
              simp
            refine StepOk.same hm (u := .tuple #[es[i].key, es[i].val]) ?_ (.tup _ _ rfl ?_)
            · simp only [execOp]
              refine vrun ?_
              rw [hv]
              refine run_entry_at (P := P) w r bm n sn.dropLast.toArray es clock es[i] ?_ g2 (by simp) (borns g3)
              rw [g1, hsn, g5]
            · intro j y z hy hz
              match j with
              | 0 => simp at hy hz; subst hy hz; exact .iv _ _ (g8 i _ _ h1 hkey)
              | 1 => simp at hy hz; subst hy hz; exact g9 i _ _ h1 hv'
              | j + 2 => simp at hy
        · cases h
      · cases h
    · cases h
  · cases h
end
end Go.Proofs.YtpjncojljamacaaGreat.AM
