/-
  The given statement BitsBuildsSaid: the law answers true for every input, and leaves its arguments as they were. No condition.
-/
import Derived.Test.YtaenpfgljlahkaaRows
import Derived.Test.YtaenpfgljlahkaaR2
import Derived.Test.YtaenpfgljlahkaaH
import Derived.Test.YtaenpfgljlahkaaF16
import Derived.Test.YtaenpfgljlahkaaR3
namespace Go.Proofs.Ytaenpfgljlahkaa.bitsBuilds
open Go.ChangeShapes Go.WideShapes Go.ChangeAt Go.RowKit Go.Proofs.Ytaenpfgljlahkaa.AM
open Go.ChangeMaps (open_string shut_string)
set_option linter.unusedVariables false
set_option linter.unusedSimpArgs false

theorem own : ownKnob Try.prog.godebug = none := by kernel_rfl
theorem laidOut : laidOutB Try.prog = true := by kernel_rfl

theorem walk (a0 : List Opr) (v0 : Value) (w : World) (w0 : ∀ o ∈ a0, o.num < 18446744073709551616) (u0 : RepI Nob w (.sl 3 (a0.map oprI)) v0) : Calls Try.prog 9 #[v0] w fun e w' => e = .returned (.bool true) ∧ Below w.heap.size w w' := by
  have h := BitsBuilds_spec a0 w0
  refine (h.2 w Nob [v0] rfl ?_ (fun b hb => hb.elim)).mono ?_
  · intro i x v hx hv
    match i with
    | 0 => simp only [List.getElem?_cons_zero, List.getElem?_cons_succ, Option.some.injEq] at hx hv; subst hx hv; exact u0
    | k + 1 => simp at hx
  · rintro e w' ⟨v, rfl, hv, hb⟩
    cases hv
    exact ⟨rfl, hb⟩

set_option maxRecDepth 100000 in
theorem lifted (os : Os) (started : os.Started) (H : Type) (enc : TypeId × Value → H) :
    ReturnsInHanded {} Try.checked os 9 .any (Rows.bitsBuildsSpec.pre6 enc Try.prog Try.f9 Rows.bitsBuildsRow.domain false) (Rows.bitsBuildsSpec.post enc Try.prog Try.f9 false true false false) := by
  refine returnsInHanded_of_change (C := Try.checked) own started (by kernel_rfl) Try.func9
    (ChangeSpec.witness6 (enc := enc) (C := Try.checked) false ⟨#[], #[.slice none 0 0], []⟩ 8 (by kernel_rfl) (by kernel_rfl) (by kernel_rfl) (by kernel_rfl)) ?_
  intro W base args ds gs before hval0 hW hcnd _
  have hval : ∀ (j : Nat) t v, Try.f9.params[j]? = some t → args[j]? = some v → Value.okWide Try.prog W .any base t v := hval0
  have hW' := hW
  obtain ⟨p, q, hA0, hV, rfl, hfz, hnd⟩ := hW
  have hA : DataW.TrodAll enc Try.prog W 0 (fun _ => true) true Try.f9.params.toList args.toList ds p := hA0
  rw [Try.params9] at hA hval
  obtain ⟨v0, vs0, d0, ds0, p0, q0, hargs, rfl, rfl, h0, r0⟩ := trodAll_cons hA
  obtain ⟨rfl, rfl, rfl⟩ := trodAll_nil r0
  obtain rfl : args = #[v0] := by cases args; simp_all
  obtain ⟨rfl, rfl⟩ := trodVars_none hV
  have k0 := h0
  have lt0 : ∀ x ∈ p0, x.block < W.heap.size := by obtain ⟨m, hm⟩ := k0; exact DataW.trod_lt m _ _ _ hm
  obtain ⟨a0, w0, u0⟩ := iv_ops 3 Try.underlying60 Try.underlying63 rfl rfl rfl (by kernel_rfl) (by kernel_rfl) (by kernel_rfl) (by kernel_rfl) Try.underlying4 Try.underlying61 Try.underlying3 (by kernel_rfl) h0 (okWide_slice Try.underlying60 (hval 0 60 v0 rfl rfl))
  clear hA0 hval0
  refine (walk a0 v0 W w0 u0).mono fun e W' ⟨he, bel⟩ => ?_
  subst he
  exact ⟨_, rfl, _, _, _, [], _, [], hW', trodAll_mk1 (shut_bool Try.underlying4 _), (trodAll_cons_mk (Below.trod laidOut (by kernel_rfl) (of_decide_eq_true (by kernel_rfl)) k0 bel lt0) trodAll_mk0), rfl, bel.frame _, fun h => by cases h⟩

theorem closed : joinedFacts Try.pinned.checked.prog 9 Try.f9 Rows.bitsBuildsSpec Rows.bitsBuildsRow = true := by unfold joinedFacts; rw [hMay, hFinal, hMake]; kernel_rfl

theorem over : Rows.bitsBuildsRow.holds Try.pinned (OpenSpec.ofChange Rows.bitsBuildsSpec) :=
  OpenClaim.holds_of_wide 9 Try.f9 rfl rfl rfl rfl rfl rfl rfl ⟨rfl, rfl, rfl, rfl, rfl⟩ rfl rfl rfl rfl rfl (by kernel_rfl) Try.func9 closed
    (of_decide_eq_true (by kernel_rfl)) (by unfold Func.isWrapper; first | (rw [if_pos (by decide +kernel)]; kernel_rfl) | (rw [if_neg (by decide +kernel)]; exact ⟨rfl, rfl⟩))
    (fun os started H enc _ => lifted os started H enc)

theorem proved : Rows.BitsBuildsSaid := over
#print axioms proved
end Go.Proofs.Ytaenpfgljlahkaa.bitsBuilds

