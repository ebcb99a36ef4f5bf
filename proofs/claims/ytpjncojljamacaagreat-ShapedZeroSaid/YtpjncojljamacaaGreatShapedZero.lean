/-
  The given statement ShapedZeroSaid: the law answers true for every input, and leaves its arguments as they were. No condition.
-/
import Derived.Test.YtpjncojljamacaaGreatRows
import Derived.Test.YtpjncojljamacaaGreatR
import Derived.Test.YtpjncojljamacaaGreatH
import Derived.Test.YtpjncojljamacaaGreatZY
namespace Go.Proofs.YtpjncojljamacaaGreat.shapedZero
open Go.ChangeShapes Go.WideShapes Go.ChangeAt Go.RowKit Go.Proofs.YtpjncojljamacaaGreat.AM
open Go.ChangeMaps (open_string shut_string)
set_option linter.unusedVariables false
set_option linter.unusedSimpArgs false

theorem own : ownKnob Tryz.prog.godebug = none := by kernel_rfl
theorem laidOut : laidOutB Tryz.prog = true := by kernel_rfl

theorem walk (a0 : Int)  (w : World) (w0 : (Lit.int .i64 a0).wf = true)  : Calls Tryz.prog 5 #[(.int .i64 a0)] w fun e w' => e = .returned (.bool true) ∧ Below w.heap.size w w' := by
  have h := ShapedZero_spec a0 
  refine (h.2 w Nob [(.int .i64 a0)] rfl ?_ (fun b hb => hb.elim)).mono ?_
  · intro i x v hx hv
    match i with
    | 0 => simp only [List.getElem?_cons_zero, List.getElem?_cons_succ, Option.some.injEq] at hx hv; subst hx hv; exact .int _ _
    | k + 1 => simp at hx
  · rintro e w' ⟨v, rfl, hv, hb⟩
    cases hv
    exact ⟨rfl, hb⟩

set_option maxRecDepth 100000 in
theorem lifted (os : Os) (started : os.Started) (H : Type) (enc : TypeId × Value → H) :
    ReturnsInHanded {} Tryz.checked os 5 .any (Rows.shapedZeroSpec.pre6 enc Tryz.prog Tryz.f5 Rows.shapedZeroRow.domain false) (Rows.shapedZeroSpec.post enc Tryz.prog Tryz.f5 false true false false) := by
  refine returnsInHanded_of_change (C := Tryz.checked) own started (by kernel_rfl) Tryz.func5
    (ChangeSpec.witness6 (enc := enc) (C := Tryz.checked) false ⟨#[], #[.int .i64 0], []⟩ 8 (by kernel_rfl) (by kernel_rfl) (by kernel_rfl) (by kernel_rfl)) ?_
  intro W base args ds gs before hval0 hW hcnd _
  have hval : ∀ (j : Nat) t v, Tryz.f5.params[j]? = some t → args[j]? = some v → Value.okWide Tryz.prog W .any base t v := hval0
  have hW' := hW
  obtain ⟨p, q, hA0, hV, rfl, hfz, hnd⟩ := hW
  have hA : DataW.TrodAll enc Tryz.prog W 0 (fun _ => true) true Tryz.f5.params.toList args.toList ds p := hA0
  rw [Tryz.params5] at hA hval
  obtain ⟨v0, vs0, d0, ds0, p0, q0, hargs, rfl, rfl, h0, r0⟩ := trodAll_cons hA
  obtain ⟨rfl, rfl, rfl⟩ := trodAll_nil r0
  obtain rfl : args = #[v0] := by cases args; simp_all
  obtain ⟨rfl, rfl⟩ := trodVars_none hV
  obtain ⟨a0, rfl, rfl, rfl, w0⟩ := open_int Tryz.underlying3 (hval 0 3 v0 rfl rfl) h0
  clear hA0 hval0
  refine (walk a0  W w0 ).mono fun e W' ⟨he, bel⟩ => ?_
  subst he
  exact ⟨_, rfl, _, _, _, [], _, [], hW', trodAll_mk1 (shut_bool Tryz.underlying4 _), (trodAll_cons_mk (shut_int Tryz.underlying3 w0) trodAll_mk0), rfl, bel.frame _, fun h => by cases h⟩

theorem closed : joinedFacts Tryz.pinned.checked.prog 5 Tryz.f5 Rows.shapedZeroSpec Rows.shapedZeroRow = true := by unfold joinedFacts; rw [hMay, hFinal, hMake]; kernel_rfl

theorem over : Rows.shapedZeroRow.holds Tryz.pinned (OpenSpec.ofChange Rows.shapedZeroSpec) :=
  OpenClaim.holds_of_wide 5 Tryz.f5 rfl rfl rfl rfl rfl rfl rfl ⟨rfl, rfl, rfl, rfl, rfl⟩ rfl rfl rfl rfl rfl (by kernel_rfl) Tryz.func5 closed
    (of_decide_eq_true (by kernel_rfl)) (by unfold Func.isWrapper; first | (rw [if_pos (by decide +kernel)]; kernel_rfl) | (rw [if_neg (by decide +kernel)]; exact ⟨rfl, rfl⟩))
    (fun os started H enc _ => lifted os started H enc)

theorem proved : Rows.ShapedZeroSaid := over
#print axioms proved
end Go.Proofs.YtpjncojljamacaaGreat.shapedZero

