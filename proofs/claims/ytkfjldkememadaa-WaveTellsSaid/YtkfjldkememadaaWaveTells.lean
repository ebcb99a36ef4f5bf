/-
  The given statement WaveTellsSaid: the law answers true for every input, and leaves its arguments as they were. No condition.
-/
import Derived.Test.YtkfjldkememadaaRows
import Derived.Test.YtkfjldkememadaaR
import Derived.Test.YtkfjldkememadaaH
import Derived.Test.YtkfjldkememadaaWE
namespace Go.Proofs.Ytkfjldkememadaa.waveTells
open Go.ChangeShapes Go.WideShapes Go.ChangeAt Go.RowKit Go.Proofs.Ytkfjldkememadaa.AM
open Go.ChangeMaps (open_string shut_string)
set_option linter.unusedVariables false
set_option linter.unusedSimpArgs false

theorem own : ownKnob Try.prog.godebug = none := by kernel_rfl
theorem laidOut : laidOutB Try.prog = true := by kernel_rfl

theorem walk (a0 : List Int) (a1 : Int) (a2 : List Int) (v0 : Value) (v2 : Value) (w : World) (w0 : a0.length ≤ maxLen ∧ ∀ n ∈ a0, (Lit.int .i64 n).wf = true) (w1 : (Lit.int .i64 a1).wf = true) (w2 : a2.length = 3 ∧ ∀ n ∈ a2, (Lit.int .i64 n).wf = true) (u0 : RepI Nob w (.sl 1 (a0.map (IV.int .i64))) v0) (u2 : RepI Nob w (.agg (a2.map (IV.int .i64))) v2) : Calls Try.prog 5 #[v0, (.int .i64 a1), v2] w fun e w' => e = .returned (.bool true) ∧ Below w.heap.size w w' := by
  have h := WaveTells_three a0 a1 a2 w2.1 (fun z hz => small_wf (w2.2 z hz))
  refine (h.2 w Nob [v0, (.int .i64 a1), v2] rfl ?_ (fun b hb => hb.elim)).mono ?_
  · intro i x v hx hv
    match i with
    | 0 => simp only [List.getElem?_cons_zero, List.getElem?_cons_succ, Option.some.injEq] at hx hv; subst hx hv; exact u0
    | 1 => simp only [List.getElem?_cons_zero, List.getElem?_cons_succ, Option.some.injEq] at hx hv; subst hx hv; exact .int _ _
    | 2 => simp only [List.getElem?_cons_zero, List.getElem?_cons_succ, Option.some.injEq] at hx hv; subst hx hv; exact u2
    | k + 3 => simp at hx
  · rintro e w' ⟨v, rfl, hv, hb⟩
    cases hv
    exact ⟨rfl, hb⟩

set_option maxRecDepth 100000 in
theorem lifted (os : Os) (started : os.Started) (H : Type) (enc : TypeId × Value → H) :
    ReturnsInHanded {} Try.checked os 5 .any (Rows.waveTellsSpec.pre6 enc Try.prog Try.f5 Rows.waveTellsRow.domain false) (Rows.waveTellsSpec.post enc Try.prog Try.f5 false true false false) := by
  refine returnsInHanded_of_change (C := Try.checked) own started (by kernel_rfl) Try.func5
    (ChangeSpec.witness6 (enc := enc) (C := Try.checked) false ⟨#[], #[.slice none 0 0, .int .i64 0, .agg #[.int .i64 0, .int .i64 0, .int .i64 0]], []⟩ 8 (by kernel_rfl) (by kernel_rfl) (by kernel_rfl) (by kernel_rfl)) ?_
  intro W base args ds gs before hval0 hW hcnd _
  have hval : ∀ (j : Nat) t v, Try.f5.params[j]? = some t → args[j]? = some v → Value.okWide Try.prog W .any base t v := hval0
  have hW' := hW
  obtain ⟨p, q, hA0, hV, rfl, hfz, hnd⟩ := hW
  have hA : DataW.TrodAll enc Try.prog W 0 (fun _ => true) true Try.f5.params.toList args.toList ds p := hA0
  rw [Try.params5] at hA hval
  obtain ⟨v0, vs0, d0, ds0, p0, q0, hargs, rfl, rfl, h0, r0⟩ := trodAll_cons hA
  obtain ⟨v1, vs1, d1, ds1, p1, q1, rfl, rfl, rfl, h1, r1⟩ := trodAll_cons r0
  obtain ⟨v2, vs2, d2, ds2, p2, q2, rfl, rfl, rfl, h2, r2⟩ := trodAll_cons r1
  obtain ⟨rfl, rfl, rfl⟩ := trodAll_nil r2
  obtain rfl : args = #[v0, v1, v2] := by cases args; simp_all
  obtain ⟨rfl, rfl⟩ := trodVars_none hV
  have k0 := h0
  have lt0 : ∀ x ∈ p0, x.block < W.heap.size := by obtain ⟨m, hm⟩ := k0; exact DataW.trod_lt m _ _ _ hm
  obtain ⟨a0, w0, x0, u0⟩ := iv_ints Try.underlying22 Try.underlying3 (by kernel_rfl) h0 (okWide_slice Try.underlying22 (hval 0 22 v0 rfl rfl))
  obtain ⟨a1, rfl, rfl, rfl, w1⟩ := open_int Try.underlying3 (hval 1 3 v1 rfl rfl) h1
  have k2 := h2
  have lt2 : ∀ x ∈ p2, x.block < W.heap.size := by obtain ⟨m, hm⟩ := k2; exact DataW.trod_lt m _ _ _ hm
  obtain ⟨a2, w2, x2, u2⟩ := iv_arr Try.underlying23 Try.underlying3 (by kernel_rfl) (by kernel_rfl) h2 (hval 2 23 v2 rfl rfl)
  clear hA0 hval0
  refine (walk a0 a1 a2 v0 v2 W ⟨w0, x0⟩ w1 ⟨w2, x2⟩ u0 u2).mono fun e W' ⟨he, bel⟩ => ?_
  subst he
  exact ⟨_, rfl, _, _, _, [], _, [], hW', trodAll_mk1 (shut_bool Try.underlying4 _), (trodAll_cons_mk (Below.trod laidOut (by kernel_rfl) (of_decide_eq_true (by kernel_rfl)) k0 bel lt0) (trodAll_cons_mk (shut_int Try.underlying3 w1) (trodAll_cons_mk (Below.trod laidOut (by kernel_rfl) (of_decide_eq_true (by kernel_rfl)) k2 bel lt2) trodAll_mk0))), rfl, bel.frame _, fun h => by cases h⟩

theorem closed : joinedFacts Try.pinned.checked.prog 5 Try.f5 Rows.waveTellsSpec Rows.waveTellsRow = true := by unfold joinedFacts; rw [hMay, hFinal, hMake]; kernel_rfl

theorem over : Rows.waveTellsRow.holds Try.pinned (OpenSpec.ofChange Rows.waveTellsSpec) :=
  OpenClaim.holds_of_wide 5 Try.f5 rfl rfl rfl rfl rfl rfl rfl ⟨rfl, rfl, rfl, rfl, rfl⟩ rfl rfl rfl rfl rfl (by kernel_rfl) Try.func5 closed
    (of_decide_eq_true (by kernel_rfl)) (by unfold Func.isWrapper; first | (rw [if_pos (by decide +kernel)]; kernel_rfl) | (rw [if_neg (by decide +kernel)]; exact ⟨rfl, rfl⟩))
    (fun os started H enc _ => lifted os started H enc)

theorem proved : Rows.WaveTellsSaid := over
#print axioms proved
end Go.Proofs.Ytkfjldkememadaa.waveTells

