/-
  The given statement ShapedOrderSaid: the law answers true for every input, and leaves its arguments as they were. No condition.
-/
import Derived.Test.YtpjncojljamacaaRows
import Derived.Test.YtpjncojljamacaaR
import Derived.Test.YtpjncojljamacaaH
import Derived.Test.YtpjncojljamacaaZV
namespace Go.Proofs.Ytpjncojljamacaa.shapedOrder
open Go.ChangeShapes Go.WideShapes Go.ChangeAt Go.RowKit Go.Proofs.Ytpjncojljamacaa.AM
open Go.ChangeMaps (open_string shut_string)
set_option linter.unusedVariables false
set_option linter.unusedSimpArgs false

theorem own : ownKnob Try.prog.godebug = none := by kernel_rfl
theorem laidOut : laidOutB Try.prog = true := by kernel_rfl

theorem walk (a0 : List Int) (a1 : Int) (v0 : Value) (w : World) (w0 : a0.length ≤ maxLen ∧ ∀ n ∈ a0, (Lit.int .i64 n).wf = true) (w1 : (Lit.int .i64 a1).wf = true) (u0 : RepI Nob w (.sl 1 (a0.map (IV.int .i64))) v0) : Calls Try.prog 5 #[v0, (.int .i64 a1)] w fun e w' => e = .returned (.bool true) ∧ Below w.heap.size w w' := by
  have h := ShapedOrder_spec a0 a1 
  refine (h.2 w Nob [v0, (.int .i64 a1)] rfl ?_ (fun b hb => hb.elim)).mono ?_
  · intro i x v hx hv
    match i with
    | 0 => simp only [List.getElem?_cons_zero, List.getElem?_cons_succ, Option.some.injEq] at hx hv; subst hx hv; exact u0
    | 1 => simp only [List.getElem?_cons_zero, List.getElem?_cons_succ, Option.some.injEq] at hx hv; subst hx hv; exact .int _ _
    | k + 2 => simp at hx
  · rintro e w' ⟨v, rfl, hv, hb⟩
    cases hv
    exact ⟨rfl, hb⟩

set_option maxRecDepth 100000 in
theorem lifted (os : Os) (started : os.Started) (H : Type) (enc : TypeId × Value → H) :
    ReturnsInHanded {} Try.checked os 5 .any (Rows.shapedOrderSpec.pre6 enc Try.prog Try.f5 Rows.shapedOrderRow.domain false) (Rows.shapedOrderSpec.post enc Try.prog Try.f5 false true false false) := by
  refine returnsInHanded_of_change (C := Try.checked) own started (by kernel_rfl) Try.func5
    (ChangeSpec.witness6 (enc := enc) (C := Try.checked) false ⟨#[], #[.slice none 0 0, .int .i64 0], []⟩ 8 (by kernel_rfl) (by kernel_rfl) (by kernel_rfl) (by kernel_rfl)) ?_
  intro W base args ds gs before hval0 hW hcnd _
  have hval : ∀ (j : Nat) t v, Try.f5.params[j]? = some t → args[j]? = some v → Value.okWide Try.prog W .any base t v := hval0
  have hW' := hW
  obtain ⟨p, q, hA0, hV, rfl, hfz, hnd⟩ := hW
  have hA : DataW.TrodAll enc Try.prog W 0 (fun _ => true) true Try.f5.params.toList args.toList ds p := hA0
  rw [Try.params5] at hA hval
  obtain ⟨v0, vs0, d0, ds0, p0, q0, hargs, rfl, rfl, h0, r0⟩ := trodAll_cons hA
  obtain ⟨v1, vs1, d1, ds1, p1, q1, rfl, rfl, rfl, h1, r1⟩ := trodAll_cons r0
  obtain ⟨rfl, rfl, rfl⟩ := trodAll_nil r1
  obtain rfl : args = #[v0, v1] := by cases args; simp_all
  obtain ⟨rfl, rfl⟩ := trodVars_none hV
  have k0 := h0
  have lt0 : ∀ x ∈ p0, x.block < W.heap.size := by obtain ⟨m, hm⟩ := k0; exact DataW.trod_lt m _ _ _ hm
  obtain ⟨a0, w0, x0, u0⟩ := iv_ints Try.underlying22 Try.underlying3 (by kernel_rfl) h0 (okWide_slice Try.underlying22 (hval 0 22 v0 rfl rfl))
  obtain ⟨a1, rfl, rfl, rfl, w1⟩ := open_int Try.underlying3 (hval 1 3 v1 rfl rfl) h1
  clear hA0 hval0
  refine (walk a0 a1 v0 W ⟨w0, x0⟩ w1 u0).mono fun e W' ⟨he, bel⟩ => ?_
  subst he
  exact ⟨_, rfl, _, _, _, [], _, [], hW', trodAll_mk1 (shut_bool Try.underlying4 _), (trodAll_cons_mk (Below.trod laidOut (by kernel_rfl) (of_decide_eq_true (by kernel_rfl)) k0 bel lt0) (trodAll_cons_mk (shut_int Try.underlying3 w1) trodAll_mk0)), rfl, bel.frame _, fun h => by cases h⟩

theorem closed : joinedFacts Try.pinned.checked.prog 5 Try.f5 Rows.shapedOrderSpec Rows.shapedOrderRow = true := by unfold joinedFacts; rw [hMay, hFinal, hMake]; kernel_rfl

theorem over : Rows.shapedOrderRow.holds Try.pinned (OpenSpec.ofChange Rows.shapedOrderSpec) :=
  OpenClaim.holds_of_wide 5 Try.f5 rfl rfl rfl rfl rfl rfl rfl ⟨rfl, rfl, rfl, rfl, rfl⟩ rfl rfl rfl rfl rfl (by kernel_rfl) Try.func5 closed
    (of_decide_eq_true (by kernel_rfl)) (by unfold Func.isWrapper; first | (rw [if_pos (by decide +kernel)]; kernel_rfl) | (rw [if_neg (by decide +kernel)]; exact ⟨rfl, rfl⟩))
    (fun os started H enc _ => lifted os started H enc)

theorem proved : Rows.ShapedOrderSaid := over
#print axioms proved
end Go.Proofs.Ytpjncojljamacaa.shapedOrder

