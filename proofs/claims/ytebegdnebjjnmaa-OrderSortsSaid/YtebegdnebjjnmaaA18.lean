
/- The abstract machine, 18: more rules. No condition. -/
import Derived.Test.YtebegdnebjjnmaaA17
set_option linter.unusedVariables false
set_option linter.unusedSimpArgs false
namespace Go.Proofs.Ytebegdnebjjnmaa.AM
open Go Go.RowKit
section
variable {P : Program} {t : TypeId} {M : List MO} {lo hi : Option AV}
@[go_sem] theorem slice_sl (sz : Nat) (xs : List IV) : sliceAV P t M (.iv (.sl sz xs)) lo hi none = (tElem P t).bind fun e => (bound lo 0).bind fun l => (bound hi xs.length).bind fun h =>
  if (sz = e.sz ∨ xs = []) ∧ 0 ≤ l ∧ l ≤ h ∧ h ≤ xs.length then some (.iv (.sl sz ((xs.drop l.toNat).take (h.toNat - l.toNat)))) else none := rfl
@[go_sem] theorem slice_str (s : ByteArray) : sliceAV P t M (.iv (.str s)) lo hi none = if tKind P t matches some .str then (bound lo 0).bind fun l => (bound hi s.size).bind fun h => if 0 ≤ l ∧ l ≤ h ∧ h ≤ s.size then some (.iv (.str (s.extract l.toNat h.toNat))) else none else none := rfl
@[go_sem] theorem slice_msl (k off len n : Nat) : sliceAV P t M (.msl k off len n) lo hi none = (tElem P t).bind fun e => (rowAt M k n).bind fun (_, _, sz, _) => (bound lo 0).bind fun l => (bound hi len).bind fun h =>
  if sz = e.sz ∧ 0 ≤ l ∧ l ≤ h ∧ h ≤ len then some (.msl k (off + l.toNat) (h.toNat - l.toNat) n) else none := rfl
@[go_sem] theorem slice_nilsl : sliceAV P t M .nilsl lo hi none = (tElem P t).bind fun e => (bound lo 0).bind fun l => (bound hi 0).bind fun h => if l = 0 ∧ h = 0 then some .nilsl else none := rfl
attribute [go_sem] Int.toNat_zero Nat.sub_zero Int.le_refl
@[go_sem] theorem takeGet {α : Type} (xs : List α) {m k : Nat} (h : k < m) : (xs.take m)[k]? = xs[k]? := by rw [List.getElem?_take, if_pos h]
end
/-- A nil slice in a variable's cell is a row without elements. -/
theorem wk_ivc (sz k j : Nat) {n b : Nat} {t : Nat → AV} {M : List MO} {T' : TypeId} {cs : List AV} (hk : M[k]? = some (.var T' cs)) (h : cs[j]? = some .nilsl) :
    Wk ⟨n, t, M, b⟩ ⟨n, t, M.set k (.var T' (cs.set j (.iv (.sl sz [])))), b⟩ := by
  refine ⟨rfl, fun X O w0 F ρ a w hs => ⟨ρ, ?_⟩⟩
  obtain ⟨bl, arr, fz, g1, g2, g3, g4, g5⟩ := hs.mem.obj k _ hk
  have hev := Evo.set (X := X) (w := w) (w' := w) k bl _ (.var T' (cs.set j (.iv (.sl sz [])))) hk g1 rfl (Wrote.refl _ _) rfl (hs.mem.other (lt_of_get hk) g1)
  have hm : MemOk X O w0 (M.set k (.var T' (cs.set j (.iv (.sl sz []))))) ρ w := by
    refine hs.mem.set k bl _ _ hk g1 (Wrote.refl _ _) hev ⟨bl, arr, fz, g1, g2, g3, by simpa using g4, fun i y u hy hu => ?_⟩
    by_cases e : i = j
    · subst e
      rw [List.getElem?_set_self (lt_of_get h)] at hy
      cases hy
      have := g5 i _ u h hu
      obtain ⟨A, hA⟩ := inv_nilsl this
      rw [hA]
      exact .iv _ _ (.sl0 _ _ _)
    · rw [List.getElem?_set_ne (Ne.symm e)] at hy
      exact (g5 i y u hy hu).mono hev
  exact ⟨hs.size, hs.defers, fun i => (hs.tm i).mono hev, hm, fun x u hx => ⟨(hs.fr x u hx).1, (hs.fr x u hx).2.mono hev⟩⟩
/-- Where two roads meet: a state that both are weaker than. -/
theorem aw_cut {P : Program} {c y : Code} {Q : Exit → St → Prop} {s : St} (S1 : St) (h : aw P c (thenQ (fun s' => Wk s' S1) Q) s) (k : aw P y Q S1) : aw P (.seq c y) Q s := by
  refine aw_seq (aw_mono h (fun e s' hq => ?_))
  cases e with
  | normal => exact aw_wk hq k
  | exit i => exact hq
  | goto i => exact hq
  | ret => exact hq
  | panic c => exact hq
  | outgrown => exact hq
/-- The same for two parts. -/
theorem aw_cut2 {P : Program} {a b y : Code} {Q : Exit → St → Prop} {s : St} (S1 : St) (h : aw P a (thenQ (aw P b (thenQ (fun s' => Wk s' S1) Q)) Q) s) (k : aw P y Q S1) : aw P (.seq a (.seq b y)) Q s := by
  refine aw_seq (aw_mono h (fun e s' hq => ?_))
  cases e with
  | normal => exact aw_cut S1 hq k
  | exit i => exact hq
  | goto i => exact hq
  | ret => exact hq
  | panic c => exact hq
  | outgrown => exact hq
attribute [go_sem ↓] reduceIte
attribute [go_sem] reduceCtorEq Nat.reduceEqDiff Nat.reduceAdd Nat.reduceSub Nat.reduceMul Nat.reduceLT Nat.reduceLeDiff Nat.reduceBEq Nat.reduceBNe Int.reduceEq Int.reduceLT Int.reduceLE Int.reduceAdd Int.reduceSub Int.reduceMul Int.reduceToNat Int.reduceNeg Int.reduceBEq Int.reduceBNe
attribute [go_sem] wrapS wrapU wrapB tdivS tmodS mapGetI mapGetB replGet Int.natCast_add natCast_zero natCast_one Int.toNat_natCast Int.cast_ofNat_Int getMap beq_int bne_int Int.sub_self Int.add_zero Int.zero_add List.append_assoc
end Go.Proofs.Ytebegdnebjjnmaa.AM
