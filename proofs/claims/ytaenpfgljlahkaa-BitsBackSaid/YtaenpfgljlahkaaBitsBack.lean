/-
  The given statement BitsBackSaid: the law answers true for every input, and leaves its arguments as they were. No condition.
-/
import Derived.Test.YtaenpfgljlahkaaRows
import Derived.Test.YtaenpfgljlahkaaR1
import Derived.Test.YtaenpfgljlahkaaH
import Derived.Test.YtaenpfgljlahkaaF15
namespace Go.Proofs.Ytaenpfgljlahkaa.bitsBack
open Go.ChangeShapes Go.WideShapes Go.ChangeAt Go.RowKit Go.Proofs.Ytaenpfgljlahkaa.AM
open Go.ChangeMaps (open_string shut_string)
set_option linter.unusedVariables false
set_option linter.unusedSimpArgs false

theorem own : ownKnob Try.prog.godebug = none := by kernel_rfl
theorem laidOut : laidOutB Try.prog = true := by kernel_rfl

theorem walk (a0 : List Int) (a1 : List Int) (v0 : Value) (v1 : Value) (w : World) (w0 : a0.length ≤ maxLen ∧ ∀ n ∈ a0, (Lit.int .u64 n).wf = true) (w1 : a1.length ≤ maxLen ∧ ∀ n ∈ a1, (Lit.int .i64 n).wf = true) (u0 : RepI Nob w (.sl 1 (a0.map (IV.int .u64))) v0) (u1 : RepI Nob w (.sl 1 (a1.map (IV.int .i64))) v1) : Calls Try.prog 10 #[v0, v1] w fun e w' => e = .returned (.bool true) ∧ Below w.heap.size w w' := by
  have h := BitsBack_spec a0 a1 (fun z hz => u64_wf (w0.2 z hz))
  refine (h.2 w Nob [v0, v1] rfl ?_ (fun b hb => hb.elim)).mono ?_
  · intro i x v hx hv
    match i with
    | 0 => simp only [List.getElem?_cons_zero, List.getElem?_cons_succ, Option.some.injEq] at hx hv; subst hx hv; exact u0
    | 1 => simp only [List.getElem?_cons_zero, List.getElem?_cons_succ, Option.some.injEq] at hx hv; subst hx hv; exact u1
    | k + 2 => simp at hx
  · rintro e w' ⟨v, rfl, hv, hb⟩
    cases hv
    exact ⟨rfl, hb⟩

set_option maxRecDepth 100000 in
theorem lifted (os : Os) (started : os.Started) (H : Type) (enc : TypeId × Value → H) :
    ReturnsInHanded {} Try.checked os 10 .any (Rows.bitsBackSpec.pre6 enc Try.prog Try.f10 Rows.bitsBackRow.domain false) (Rows.bitsBackSpec.post enc Try.prog Try.f10 false true false false) := by
  refine returnsInHanded_of_change (C := Try.checked) own started (by kernel_rfl) Try.func10
    (ChangeSpec.witness6 (enc := enc) (C := Try.checked) false ⟨#[], #[.slice none 0 0, .slice none 0 0], []⟩ 8 (by kernel_rfl) (by kernel_rfl) (by kernel_rfl) (by kernel_rfl)) ?_
  intro W base args ds gs before hval0 hW hcnd _
  have hval : ∀ (j : Nat) t v, Try.f10.params[j]? = some t → args[j]? = some v → Value.okWide Try.prog W .any base t v := hval0
  have hW' := hW
  obtain ⟨p, q, hA0, hV, rfl, hfz, hnd⟩ := hW
  have hA : DataW.TrodAll enc Try.prog W 0 (fun _ => true) true Try.f10.params.toList args.toList ds p := hA0
  rw [Try.params10] at hA hval
  obtain ⟨v0, vs0, d0, ds0, p0, q0, hargs, rfl, rfl, h0, r0⟩ := trodAll_cons hA
  obtain ⟨v1, vs1, d1, ds1, p1, q1, rfl, rfl, rfl, h1, r1⟩ := trodAll_cons r0
  obtain ⟨rfl, rfl, rfl⟩ := trodAll_nil r1
  obtain rfl : args = #[v0, v1] := by cases args; simp_all
  obtain ⟨rfl, rfl⟩ := trodVars_none hV
  have k0 := h0
  have lt0 : ∀ x ∈ p0, x.block < W.heap.size := by obtain ⟨m, hm⟩ := k0; exact DataW.trod_lt m _ _ _ hm
  obtain ⟨a0, w0, x0, u0⟩ := iv_ints Try.underlying25 Try.underlying61 (by kernel_rfl) h0 (okWide_slice Try.underlying25 (hval 0 25 v0 rfl rfl))
  have k1 := h1
  have lt1 : ∀ x ∈ p1, x.block < W.heap.size := by obtain ⟨m, hm⟩ := k1; exact DataW.trod_lt m _ _ _ hm
  obtain ⟨a1, w1, x1, u1⟩ := iv_ints Try.underlying36 Try.underlying3 (by kernel_rfl) h1 (okWide_slice Try.underlying36 (hval 1 36 v1 rfl rfl))
  clear hA0 hval0
  refine (walk a0 a1 v0 v1 W ⟨w0, x0⟩ ⟨w1, x1⟩ u0 u1).mono fun e W' ⟨he, bel⟩ => ?_
  subst he
  exact ⟨_, rfl, _, _, _, [], _, [], hW', trodAll_mk1 (shut_bool Try.underlying4 _), (trodAll_cons_mk (Below.trod laidOut (by kernel_rfl) (of_decide_eq_true (by kernel_rfl)) k0 bel lt0) (trodAll_cons_mk (Below.trod laidOut (by kernel_rfl) (of_decide_eq_true (by kernel_rfl)) k1 bel lt1) trodAll_mk0)), rfl, bel.frame _, fun h => by cases h⟩

theorem closed : joinedFacts Try.pinned.checked.prog 10 Try.f10 Rows.bitsBackSpec Rows.bitsBackRow = true := by unfold joinedFacts; rw [hMay, hFinal, hMake]; kernel_rfl

theorem over : Rows.bitsBackRow.holds Try.pinned (OpenSpec.ofChange Rows.bitsBackSpec) :=
  OpenClaim.holds_of_wide 10 Try.f10 rfl rfl rfl rfl rfl rfl rfl ⟨rfl, rfl, rfl, rfl, rfl⟩ rfl rfl rfl rfl rfl (by kernel_rfl) Try.func10 closed
    (of_decide_eq_true (by kernel_rfl)) (by unfold Func.isWrapper; first | (rw [if_pos (by decide +kernel)]; kernel_rfl) | (rw [if_neg (by decide +kernel)]; exact ⟨rfl, rfl⟩))
    (fun os started H enc _ => lifted os started H enc)

theorem proved : Rows.BitsBackSaid := over
#print axioms proved
end Go.Proofs.Ytaenpfgljlahkaa.bitsBack

