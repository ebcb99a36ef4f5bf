/- The abstract machine, 18: more rules. No condition. -/
import Derived.Test.YtaenpfgljlahkaaA17
set_option linter.unusedVariables false
set_option linter.unusedSimpArgs false
namespace Go.Proofs.Ytaenpfgljlahkaa.AM
open Go Go.RowKit
section
variable {P : Program} {t : TypeId} {M : List MO} {lo hi : Option AV}
@[go_sem] theorem slice_sl (sz : Nat) (xs : List IV) : sliceAV P t M (.iv (.sl sz xs)) lo hi none = (tElem P t).bind fun e => (bound lo 0).bind fun l => (bound hi xs.length).bind fun h =>
  if (sz = e.sz ∨ xs = []) ∧ 0 ≤ l ∧ l ≤ h ∧ h ≤ xs.length then some (.iv (.sl sz ((xs.drop l.toNat).take (h.toNat - l.toNat)))) else none := rfl
@[go_sem] theorem slice_str (s : ByteArray) : sliceAV P t M (.iv (.str s)) lo hi none = if tKind P t matches some .str then (bound lo 0).bind fun l => (bound hi s.size).bind fun h => if 0 ≤ l ∧ l ≤ h ∧ h ≤ s.size then some (.iv (.str (s.extract l.toNat h.toNat))) else none else none := rfl
@[go_sem] theorem slice_msl (k off len n : Nat) : sliceAV P t M (.msl k off len n) lo hi none = (tElem P t).bind fun e => (rowAt M k n).bind fun (_, _, sz, _) => (bound lo 0).bind fun l => (bound hi len).bind fun h =>
  if sz = e.sz ∧ 0 ≤ l ∧ l ≤ h ∧ h ≤ len then some (.msl k (off + l.toNat) (h.toNat - l.toNat) n) else none := rfl
@[go_sem] theorem slice_nilsl : sliceAV P t M .nilsl lo hi none = (tElem P t).bind fun e => (bound lo 0).bind fun l => (bound hi 0).bind fun h => if l = 0 ∧ h = 0 then some .nilsl else none := rfl
attribute [go_sem] Int.toNat_zero Nat.sub_zero Int.le_refl
@[go_sem] theorem takeGet {α : Type} (xs : List α) {m k : Nat} (h : k < m) : (xs.take m)[k]? = xs[k]? := by rw [List.getElem?_take, if_pos h]
end
/-- Where two roads meet: a state that both are weaker than. -/
theorem aw_cut {P : Program} {c y : Code} {Q : Exit → St → Prop} {s : St} (S1 : St) (h : aw P c (thenQ (fun s' => Wk s' S1) Q) s) (k : aw P y Q S1) : aw P (.seq c y) Q s := by
  refine aw_seq (aw_mono h (fun e s' hq => ?_))
  cases e with
  | normal => exact aw_wk hq k
  | exit i => exact hq
  | goto i => exact hq
  | ret => exact hq
  | panic c => exact hq
  | outgrown => exact hq
attribute [go_sem] wrapS wrapU wrapB tdivS tmodS mapGetI mapGetB replGet Int.natCast_add natCast_zero natCast_one Int.toNat_natCast Int.cast_ofNat_Int getMap beq_int bne_int Int.sub_self Int.add_zero Int.zero_add List.append_assoc
end Go.Proofs.Ytaenpfgljlahkaa.AM
