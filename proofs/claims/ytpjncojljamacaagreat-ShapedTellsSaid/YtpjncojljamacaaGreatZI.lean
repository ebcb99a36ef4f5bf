
/- Chapter 5: slices.Insert at heaps (three cells each), one heap, ahead of the end: in place, and into a new row. What the copies and the append do is a condition here. -/
import Derived.Test.YtpjncojljamacaaGreatZG
import Derived.Shelf.Spec.SlicesInsertGrow
set_option linter.unusedVariables false
set_option linter.unusedSimpArgs false
namespace Go.Proofs
open Go Go.Shelf Go.RowKit Go.Lib

set_option maxHeartbeats 4000000 in
set_option maxRecDepth 100000 in
theorem Tryz.insShift (b n c i vb vc : Nat) (w : World) (us vs : List Value) (hi : i < n) (hroom : n + 1 ≤ c) (hn63 : n + 1 ≤ 9223372036854775807)
    (hov : ∀ lb cb, (callFunc 80 #[.slice (some ⟨vb, 0, none⟩) 1 vc, .slice (some ⟨b, (i + 1) * 3, none⟩) lb cb]).run Tryz.prog w = .ok (.value (.bool false)) w)
    (hcp1 : ∀ ty dc sc, (Builtin.copy_ #[82, 82] ty #[.slice (some ⟨b, (i + 1) * 3, none⟩) (n - i) dc, .slice (some ⟨b, i * 3, none⟩) (n + 1 - i) sc]).run Tryz.prog w.drew = .ok (goInt (n - i : Nat)) (w.drew.setCells b ((i + 1) * 3) us))
    (hcp2 : ∀ ty dc, (Builtin.copy_ #[82, 82] ty #[.slice (some ⟨b, i * 3, none⟩) (n + 1 - i) dc, .slice (some ⟨vb, 0, none⟩) 1 vc]).run Tryz.prog (w.drew.setCells b ((i + 1) * 3) us) = .ok (goInt 1) ((w.drew.setCells b ((i + 1) * 3) us).setCells b (i * 3) vs)) :
    Calls Tryz.prog 62 #[.slice (some ⟨b, 0, none⟩) n c, .int .i64 i, .slice (some ⟨vb, 0, none⟩) 1 vc] w fun e w' =>
      e = .returned (.slice (some ⟨b, 0, none⟩) (n + 1) c) ∧ w' = (w.drew.setCells b ((i + 1) * 3) us).setCells b (i * 3) vs := by
  have t62 := Tryz.underlying82; have a62 := Tryz.isAgg82; have z62 := Tryz.sizeOf82; have v62 := Tryz.zeroValue82
  have t3 := Tryz.underlying3; have a3 := Tryz.isAgg3; have z3 := Tryz.sizeOf3; have v3 := Tryz.zeroValue3
  have t4 := Tryz.underlying4; have a4 := Tryz.isAgg4; have z4 := Tryz.sizeOf4; have v4 := Tryz.zeroValue4
  have t64 := Tryz.underlying84; have a64 := Tryz.isAgg84; have z64 := Tryz.sizeOf84; have v64 := Tryz.zeroValue84
  have u3 := run_underlying t3; have u4 := run_underlying t4; have u62 := run_underlying t62; have u64 := run_underlying t64
  have mixed : Tryz.prog.follows Departure.mixedOrders = true := by kernel_rfl
  have hz2 : ¬ ((i : Int) = (n : Int)) := by omega
  have hw1 : IntKind.i64.wrap ((i : Int) + 1) = (i : Int) + 1 := by rw [IntKind.wrap_i64]; omega
  have hb1 : (0 : Int) ≤ (i : Int) + 1 := by omega
  have hin : i ≤ n := by omega
  have htn : ((i : Int) + 1).toNat = i + 1 := by omega
  have hb2 : ¬ (c = i + 1) := by omega
  have hb3 : (i : Int) ≤ (n : Int) + 1 := by omega
  have hb4 : ¬ (c = i) := by omega
  go_enter Tryz.func62, Tryz.ntmps62
  go_wp2_with (simp only [hov])
  go_region_law_o (refine step_copy_runI rfl _ _ 82 82 rfl _ _ (by simp [Act.eval, Act.put]) (by simp [Act.eval, Act.put]) (hcp1 _ _ _) ?_)
  go_wp2_with (at_builtin; refine wpList_copy_runI _ rfl _ _ 82 82 rfl _ _ rfl rfl (hcp2 _ _) ?_)
  go_ret
  exact ⟨rfl, rfl⟩

set_option maxHeartbeats 4000000 in
set_option maxRecDepth 100000 in
theorem Tryz.insGrow (b n c i vb vc B G : Nat) (w W1 W2 W3 : World) (hi : i < n) (hnc : n ≤ c) (hroom : c < n + 1) (hG : n + 1 ≤ G) (hG63 : G ≤ 9223372036854775807)
    (hrz : ∀ ty, (Builtin.append_ #[82, 3] ty #[.slice (some ⟨b, 0, none⟩) i c, .int .i64 ((n : Int) + 1 - (i : Int))]).run Tryz.prog w = .ok (.slice (some ⟨B, 0, none⟩) (n + 1) G) W1)
    (hcpA : ∀ ty dc, (Builtin.copy_ #[82, 82] ty #[.slice (some ⟨B, i * 3, none⟩) (n + 1 - i) dc, .slice (some ⟨vb, 0, none⟩) 1 vc]).run Tryz.prog W1 = .ok (goInt 1) W2)
    (hcpB : ∀ ty dc sc, (Builtin.copy_ #[82, 82] ty #[.slice (some ⟨B, (i + 1) * 3, none⟩) (n - i) dc, .slice (some ⟨b, i * 3, none⟩) (n - i) sc]).run Tryz.prog W2.drew = .ok (goInt (n - i : Nat)) W3) :
    Calls Tryz.prog 62 #[.slice (some ⟨b, 0, none⟩) n c, .int .i64 i, .slice (some ⟨vb, 0, none⟩) 1 vc] w fun e w' =>
      e = .returned (.slice (some ⟨B, 0, none⟩) (n + 1) G) ∧ w' = W3 := by
  have t62 := Tryz.underlying82; have a62 := Tryz.isAgg82; have z62 := Tryz.sizeOf82; have v62 := Tryz.zeroValue82
  have t3 := Tryz.underlying3; have a3 := Tryz.isAgg3; have z3 := Tryz.sizeOf3; have v3 := Tryz.zeroValue3
  have t4 := Tryz.underlying4; have a4 := Tryz.isAgg4; have z4 := Tryz.sizeOf4; have v4 := Tryz.zeroValue4
  have t64 := Tryz.underlying84; have a64 := Tryz.isAgg84; have z64 := Tryz.sizeOf84; have v64 := Tryz.zeroValue84
  have u3 := run_underlying t3; have u4 := run_underlying t4; have u62 := run_underlying t62; have u64 := run_underlying t64
  have mixed : Tryz.prog.follows Departure.mixedOrders = true := by kernel_rfl
  have hz2 : ¬ ((i : Int) = (n : Int)) := by omega
  have hz3 : (c : Int) < (n : Int) + 1 := by omega
  have hGi : ¬ (G = i) := by omega
  have hGim : ¬ (G = i + 1) := by omega
  have hci : ¬ (c = i) := by omega
  have hw1 : IntKind.i64.wrap ((i : Int) + 1) = (i : Int) + 1 := by rw [IntKind.wrap_i64]; omega
  have hb1 : (0 : Int) ≤ (i : Int) + 1 := by omega
  have hin : i ≤ n := by omega
  have htn : ((i : Int) + 1).toNat = i + 1 := by omega
  have hb3 : (i : Int) ≤ (n : Int) := by omega
  have hb4 : (i : Int) ≤ (n : Int) + 1 := by omega
  go_enter Tryz.func62, Tryz.ntmps62
  go_wp2_with (first
    | (at_builtin; refine Lib.wpList_append_run _ rfl _ _ _ _ rfl _ _ rfl rfl _ _ (hrz _) ?_)
    | (at_builtin; refine wpList_copy_runI _ rfl _ _ 82 82 rfl _ _ rfl rfl (hcpA _ _) ?_)
    | (at_builtin; refine wpList_copy_runI _ rfl _ _ 82 82 rfl _ _ rfl rfl (hcpB _ _ _) ?_))
  go_region_law_o (refine step_copy_runI rfl _ _ 82 82 rfl _ _ (by simp [Act.eval, Act.put]) (by simp [Act.eval, Act.put]) (hcpB _ _ _) ?_)
  go_wp2
  go_ret
  exact ⟨rfl, rfl⟩
variable {P : Program}
theorem run_copyK (w : World) (dT sT ty elem : TypeId) (sz q b o dLen dCap : Nat) (a : Addr) (sLen sCap : Nat) (cs : List Value)
    (hu : P.underlying dT = some (.slice elem)) (hs : (P.info? elem).map (·.size) = some sz) (hq : Nat.min sLen dLen = q) (hn : cs.length = q * sz)
    (hsrc : ∀ j v, cs[j]? = some v → w.cell? (a.add j) = some v) (hc : ∀ j, j < cs.length → (w.cell? ⟨b, o + j, none⟩).isSome = true) (hf : ∀ j, j < cs.length → w.frozen? ⟨b, o + j, none⟩ = false) (h1 : ∀ v ∈ cs, v.oneCell' = true) :
    (Builtin.copy_ #[dT, sT] ty #[.slice (some ⟨b, o, none⟩) dLen dCap, .slice (some a) sLen sCap]).run P w = .ok (goInt q) (w.setCells b o cs) := by
  have hl := run_loadCells_list (P := P) w a cs hsrc
  have hst := run_storeCells_cells (P := P) b o cs 0 w (by simpa using hc) (by simpa using hf) h1
  cases hqi : P.info? elem with
  | none => simp [hqi] at hs
  | some i =>
    have hi : i.size = sz := by simpa [hqi] using hs
    simp [Builtin.copy_, run_underlying hu, Builtin.lenOf, Builtin.firstCells, sizeOf, typeInfo, hqi, hi, hq, ← hn, hl, hst]
end Go.Proofs
namespace Go.Proofs.YtpjncojljamacaaGreat.AM
open Go Go.RowKit

theorem setCells_wrote {sz : Nat} {P : Program} (b o : Nat) (us : List Value) (w : World) {arr : Array Value} {T : TypeId} {fz : Nat × Nat} (h : w.heap[b]? = some (.cells arr T fz)) (hf : Unfrozen arr fz sz) (hl : o + us.length ≤ arr.size) (h1 : ∀ u ∈ us, u.oneCell' = true) :
    Wrote w (w.setCells b o us) b ∧ ∃ arr', (w.setCells b o us).heap[b]? = some (.cells arr' T fz) ∧ arr'.size = arr.size ∧ ∀ p, arr'[p]? = if o ≤ p ∧ p < o + us.length then us[p - o]? else arr[p]? := by
  obtain ⟨w', hr, hw, arr', hh, hs, hp⟩ := run_storeCells (P := P) b o us 0 w arr h hf (by omega) h1
  have h2 := run_storeCells_cells (P := P) b o us 0 w (fun j hj => by
    have : o + j < arr.size := by omega
    simp only [Nat.add_zero] at *
    rw [cell_of_cells h, Array.getElem?_eq_getElem this]; rfl) (fun j hj => by
    have : o + j < arr.size := by omega
    simp only [World.frozen?, h]
    exact hf _ (by omega)) h1
  simp only [Nat.add_zero] at h2 hp
  rw [hr] at h2
  cases h2
  exact ⟨hw, arr', hh, hs, hp⟩
end Go.Proofs.YtpjncojljamacaaGreat.AM
