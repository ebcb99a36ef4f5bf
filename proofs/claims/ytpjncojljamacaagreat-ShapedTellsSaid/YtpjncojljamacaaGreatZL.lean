
/- Chapter 5: slices.SortFunc at heaps: the closure's walk in the model's own world, and the call of the machine. The heaps' numbers are distinct. -/
import Derived.Test.YtpjncojljamacaaGreatZK
import Derived.Test.YtpjncojljamacaaGreatL
import Derived.StillTailTactics
set_option linter.unusedVariables false
set_option linter.unusedSimpArgs false
set_option maxRecDepth 20000
namespace Go.Proofs
open Go Go.Shelf Go.RowKit Go.Lib Go.Sort

theorem Tryz.alloc3 (W : World) (A B C : Array Value) {T T' : TypeId} : (((W.alloc (Obj.cells A T)).alloc (Obj.cells B T)).alloc (Obj.cells C T')).drew.heap[W.heap.size + 1 + 1]? = some (.cells C T' (0, 0)) := by
  show (((W.heap.push (Obj.cells A T)).push (Obj.cells B T)).push (Obj.cells C T'))[W.heap.size + 1 + 1]? = _
  rw [Array.getElem?_push, if_pos (by simp only [Array.size_push])]
theorem Tryz.alloc3g (W : World) (A B C : Obj) : (((W.alloc A).alloc B).alloc C).drew = grow (W.drewN 1) #[A, B, C] := by
  have : ((W.heap.push A).push B).push C = W.heap ++ #[A, B, C] := Array.ext' (by simp only [Array.toList_push, Array.toList_append, List.append_assoc, List.cons_append, List.nil_append])
  show ({ W with heap := ((W.heap.push A).push B).push C, drawn := W.drawn + 1 } : World) = { W with heap := W.heap ++ #[A, B, C], drawn := W.drawn + 1 }
  rw [this]

theorem Tryz.isNaN_w (x : Int) (w : World) : Calls Tryz.prog 65 #[.int .i64 x] w fun e w' => e = .returned (.bool false) ∧ w' = w := by
  have t4 := Tryz.underlying4; have a4 := Tryz.isAgg4; have z4 := Tryz.sizeOf4; have v4 := Tryz.zeroValue4
  have t3 := Tryz.underlying3; have a3 := Tryz.isAgg3; have z3 := Tryz.sizeOf3; have v3 := Tryz.zeroValue3
  go_enter Tryz.func65, Tryz.ntmps65
  go_wp2
  go_ret
  exact ⟨by simp, rfl⟩

set_option maxHeartbeats 1000000 in
theorem Tryz.cmp_w (x y : Int) (w : World) : Calls Tryz.prog 41 #[.int .i64 x, .int .i64 y] w fun e w' => e = .returned (.int .i64 (if x < y then -1 else if y < x then 1 else 0)) ∧ w' = w := by
  have t4 := Tryz.underlying4; have a4 := Tryz.isAgg4; have z4 := Tryz.sizeOf4; have v4 := Tryz.zeroValue4
  have t3 := Tryz.underlying3; have a3 := Tryz.isAgg3; have z3 := Tryz.sizeOf3; have v3 := Tryz.zeroValue3
  have e7 : ∀ args w, (callFunc 65 args).run Tryz.prog w = .ok (.enter 65 args) w := enters_of Tryz.func65 (by kernel_rfl) rfl
  go_enter Tryz.func41, Tryz.ntmps41
  go_wp2_with (go_at_call 65; refine (Tryz.isNaN_w _ _).mono ?_; rintro e w' ⟨rfl, hw⟩; rw [hw])
  all_goals (go_ret; refine ⟨?_, rfl⟩; (repeat' split) <;> first | rfl | (exfalso; omega))

set_option maxHeartbeats 2000000 in
theorem Tryz.or_w (a b : Int) (B cap : Nat) (W : World) (h0 : W.cell? ⟨B, 0, none⟩ = some (.int .i64 a)) (h1 : W.cell? ⟨B, 1, none⟩ = some (.int .i64 b)) :
    Calls Tryz.prog 58 #[.slice (some ⟨B, 0, none⟩) 2 cap] W fun e w' => e = .returned (.int .i64 (if a = 0 then b else a)) ∧ w' = W := by
  have t4 := Tryz.underlying4; have a4 := Tryz.isAgg4; have z4 := Tryz.sizeOf4; have v4 := Tryz.zeroValue4
  have t3 := Tryz.underlying3; have a3 := Tryz.isAgg3; have z3 := Tryz.sizeOf3; have v3 := Tryz.zeroValue3
  have t22 := Tryz.underlying22; have a22 := Tryz.isAgg22; have z22 := Tryz.sizeOf22; have v22 := Tryz.zeroValue22
  go_enter Tryz.func58, Tryz.ntmps58
  go_wp2
  go_loopw [8] (fun i wr => wr = W ∧ ∃ k : Nat, k ≤ 2 ∧ i = .int .i64 (k : Int) ∧ (1 ≤ k → a = 0) ∧ (2 ≤ k → b = 0)) (fun i _ => (2 - intOf i).toNat)
  case atStart => exact ⟨rfl, 0, by omega, rfl, by omega, by omega⟩
  case round =>
    obtain ⟨rfl, k, hk, rfl, ha, hb⟩ := hrel
    match k, hk, ha, hb with
    | 0, _, _, _ =>
      by_cases e : a = 0
      · subst e
        go_wp2
        case roundEnd => exact ⟨⟨trivial, 1, by omega, rfl, by simp, by omega⟩, by decide⟩
      · go_wp2
        all_goals first | contradiction | skip
        go_ret
        exact ⟨rfl, rfl⟩
    | 1, _, ha, _ =>
      obtain rfl := ha (Nat.le_refl _)
      by_cases e : b = 0
      · subst e
        go_wp2
        case roundEnd => exact ⟨⟨trivial, 2, by omega, rfl, by simp, by simp⟩, by decide⟩
      · go_wp2
        all_goals first | contradiction | skip
        go_ret
        exact ⟨rfl, rfl⟩
    | 2, _, ha, hb =>
      obtain rfl := ha (by omega)
      obtain rfl := hb (Nat.le_refl _)
      go_wp2
      go_ret
      exact ⟨rfl, rfl⟩

set_option maxHeartbeats 2000000 in
theorem Tryz.order_w (a b p q : Int) (s t : Value) (W : World) : Calls Tryz.prog 57 #[.agg #[.int .i64 a, .int .i64 p, s], .agg #[.int .i64 b, .int .i64 q, t]] W fun e w' =>
    e = .returned (.int .i64 (if (if a < b then (-1 : Int) else if b < a then 1 else 0) = 0 then (if p < q then (-1 : Int) else if q < p then 1 else 0) else (if a < b then (-1 : Int) else if b < a then 1 else 0))) ∧ ∃ q os', w' = grow (W.drewN q) os' := by
  have t3 := Tryz.underlying3; have a3 := Tryz.isAgg3; have z3 := Tryz.sizeOf3; have v3 := Tryz.zeroValue3
  have t22 := Tryz.underlying22; have a22 := Tryz.isAgg22; have z22 := Tryz.sizeOf22; have v22 := Tryz.zeroValue22
  have t64 := Tryz.underlying84; have a64 := Tryz.isAgg84; have z64 := Tryz.sizeOf84; have v64 := Tryz.zeroValue84
  have mixed : Tryz.prog.follows Departure.mixedOrders = true := by kernel_rfl
  have c1 := fun W' => Tryz.cmp_w a b W'
  have c2 := fun W' => Tryz.cmp_w p q W'
  generalize (if a < b then (-1 : Int) else if b < a then 1 else 0) = r at *
  generalize (if p < q then (-1 : Int) else if q < p then 1 else 0) = u at *
  have e1 : ∀ args w, (callFunc 41 args).run Tryz.prog w = .ok (.enter 41 args) w := enters_of Tryz.func41 (by kernel_rfl) rfl
  have e2 : ∀ args w, (callFunc 58 args).run Tryz.prog w = .ok (.enter 58 args) w := enters_of Tryz.func58 (by kernel_rfl) rfl
  obtain ⟨w3, hw3⟩ : ∃ w3, w3 = ((W.alloc (Obj.cells #[Value.int IntKind.i64 a, Value.int IntKind.i64 p, s] 84)).alloc (Obj.cells #[Value.int IntKind.i64 b, Value.int IntKind.i64 q, t] 84)).drew := ⟨_, rfl⟩
  have hh : w3.heap = (W.heap.push (.cells #[Value.int IntKind.i64 a, Value.int IntKind.i64 p, s] 84 (0, 0))).push (.cells #[Value.int IntKind.i64 b, Value.int IntKind.i64 q, t] 84 (0, 0)) := by rw [hw3]; rfl
  have q1 : w3.heap[W.heap.size]? = some (.cells #[Value.int IntKind.i64 a, Value.int IntKind.i64 p, s] 84 (0, 0)) := by rw [hh]; simp [Array.getElem?_push]
  have q2 : w3.heap[W.heap.size + 1]? = some (.cells #[Value.int IntKind.i64 b, Value.int IntKind.i64 q, t] 84 (0, 0)) := by rw [hh, Array.getElem?_push, if_pos (by simp only [Array.size_push])]
  have g1 : w3.cell? ⟨W.heap.size, 0, none⟩ = some (.int .i64 a) := by rw [YtpjncojljamacaaGreat.AM.cell_of_cells q1]; rfl
  have g2 : w3.cell? ⟨W.heap.size, 1, none⟩ = some (.int .i64 p) := by rw [YtpjncojljamacaaGreat.AM.cell_of_cells q1]; rfl
  have g3 : w3.cell? ⟨W.heap.size + 1, 0, none⟩ = some (.int .i64 b) := by rw [YtpjncojljamacaaGreat.AM.cell_of_cells q2]; rfl
  have g4 : w3.cell? ⟨W.heap.size + 1, 1, none⟩ = some (.int .i64 q) := by rw [YtpjncojljamacaaGreat.AM.cell_of_cells q2]; rfl
  go_enter Tryz.func57, Tryz.ntmps57
  go_wp2_with fail
  refine wp_region_still_tail 10 mixed (by kernel_rfl) ?_
  simp only [List.take_succ_cons, List.take_zero, List.drop_succ_cons, List.drop_zero]
  change wpStill _ _ (((W.alloc (Obj.cells #[Value.int IntKind.i64 a, Value.int IntKind.i64 p, s] 84)).alloc (Obj.cells #[Value.int IntKind.i64 b, Value.int IntKind.i64 q, t] 84)).drew) (fun a' => wpList _ _ _ _ a' (((W.alloc (Obj.cells #[Value.int IntKind.i64 a, Value.int IntKind.i64 p, s] 84)).alloc (Obj.cells #[Value.int IntKind.i64 b, Value.int IntKind.i64 q, t] 84)).drew)) _ _
  rw [← hw3]
  repeat still_step
  still_call (c1 _)
  repeat still_step
  still_call (c2 _)
  repeat still_step
  refine wpStill_nil ?_
  go_wp2_with (go_at_call 58; refine (Tryz.or_w r u _ _ _ ?_ ?_).mono ?_)
  case refine_1 => rw [YtpjncojljamacaaGreat.AM.cell_of_cells (Tryz.alloc3 W _ _ _)]; rfl
  case refine_2 => rw [YtpjncojljamacaaGreat.AM.cell_of_cells (Tryz.alloc3 W _ _ _)]; rfl
  all_goals go_ret
  all_goals exact ⟨rfl, 1, _, Tryz.alloc3g W _ _ _⟩
end Go.Proofs
namespace Go.Proofs.YtpjncojljamacaaGreat.AM
open Go Go.RowKit

theorem srt_fin (l : List Hea) (hd : l.Pairwise (fun a b => a.n ≠ b.n)) (D : List (Fin l.length)) (hp : D.Perm (List.finRange l.length)) (hs : D.Pairwise (fun x y => ¬ ltH (l.get y) (l.get x))) : D.map l.get = srtH l := by
  have p1 : (D.map l.get).Perm l := by
    have h := hp.map l.get
    rwa [show (List.finRange l.length).map l.get = l from by
      apply List.ext_getElem
      · simp
      · intro i h1 h2; simp [List.getElem_finRange]] at h
  have nd : D.Nodup := hp.nodup_iff.2 (by
    rw [List.nodup_iff_pairwise_ne, List.pairwise_iff_getElem]
    intro i j hi hj hij e
    rw [List.getElem_finRange, List.getElem_finRange] at e
    have := congrArg Fin.val e
    simp at this; omega)
  have p2 : (D.map l.get).Pairwise ltH := by
    rw [List.pairwise_map]
    refine (hs.and (List.nodup_iff_pairwise_ne.1 nd)).imp ?_
    rintro x y ⟨h1, h2⟩
    have hne : (l.get x).n ≠ (l.get y).n := by
      have hg := List.pairwise_iff_getElem.1 hd
      have hv : x.val ≠ y.val := fun e => h2 (Fin.ext e)
      rcases Nat.lt_or_gt_of_ne hv with h | h
      · exact hg x.val y.val x.isLt y.isLt h
      · exact fun e => hg y.val x.val y.isLt x.isLt h e.symm
    unfold ltH at h1 ⊢
    omega
  exact List.Perm.eq_of_pairwise (fun a b _ _ h1 h2 => (ltH_asym h1 h2).elim) p2 (srtH_srt l hd) (p1.trans (srtH_perm l).symm)

theorem cmpH_if (a b : Hea) : cmpH a b = (if (if a.w < b.w then (-1 : Int) else if b.w < a.w then 1 else 0) = 0 then (if a.n < b.n then (-1 : Int) else if b.n < a.n then 1 else 0) else (if a.w < b.w then (-1 : Int) else if b.w < a.w then 1 else 0)) := by
  unfold cmpH
  repeat' split
  all_goals first | rfl | omega

open Go.Shelf Go.Sort in
theorem sorted_block {α : Type} [Inhabited α] (enc : α → List Value) (k : Nat) (w : World) (b m : Nat) (D : Array α) (os : Array Obj) {arr : Array Value} {T : TypeId} {fz : Nat × Nat} (h : w.heap[b]? = some (.cells arr T fz)) (hl : D.size * k ≤ arr.size) :
    ∃ w1 arr', Wrote w w1 b ∧ w1.heap[b]? = some (.cells arr' T fz) ∧ arr'.size = arr.size ∧ (∀ p, p < D.size * k → arr'[p]? = some ((enc D[p / k]!)[p % k]!)) ∧
      sortWorldK enc k w b 0 m D os = grow w1 os := by
  refine ⟨putRowK enc k (Sort.ahead w m) b 0 D, putCells id 0 (flatK enc k D) arr, ⟨rfl, rfl, rfl, by simp [putRowK, Sort.ahead], fun j hj => ?_⟩, ?_, by simp [putCells], fun p hp => ?_, rfl⟩
  · show ((Sort.ahead w m).heap.modify b _)[j]? = _
    rw [Array.getElem?_modify, if_neg (Ne.symm hj)]; rfl
  · show ((Sort.ahead w m).heap.modify b _)[b]? = _
    rw [Array.getElem?_modify, if_pos rfl, show (Sort.ahead w m).heap[b]? = _ from h]; rfl
  · rw [show putCells id 0 (flatK enc k D) arr = arr.mapIdx _ from rfl, Array.getElem?_mapIdx, Array.getElem?_eq_getElem (by omega), Option.map_some]
    simp only [size_flatK, Nat.zero_le, true_and, Nat.zero_add, Nat.sub_zero, id]
    rw [if_pos hp, get_flatK _ _ _ _ hp]

open Go.Shelf Go.Sort Go.Lib in
theorem SortH_M (l : List Hea) (hl : l.length ≤ 1000000) (hd : l.Pairwise (fun a b => a.n ≠ b.n)) :
    MCalls Tryz.prog 59 [.msl 0 0 l.length l.length, .iv (.fnc 57)] [.row true 84 3 (l.map hpV)] (.tup []) [.row true 84 3 ((srtH l).map hpV)] := by
  refine ⟨by unfold Callable; kernel_rfl, by simp, fun X w ρ vs hm hl' hv => ?_⟩
  have hM0 : [MO.row true 84 3 (l.map hpV)][0]? = some (.row true 84 3 (l.map hpV)) := rfl
  have hsl : (srtH l).length = l.length := (srtH_perm l).length_eq
  match vs, hl', hv with
  | [v0, v1], _, hv =>
    have r0 := hv 0 _ v0 rfl rfl
    have r1 := hv 1 _ v1 rfl rfl
    obtain ⟨_, A, c, rfl, hlc, g2⟩ := msl_spec r0 hM0 (by rw [List.length_map])
    cases r1 with
    | iv _ _ r1 =>
    cases r1
    by_cases h0 : l = []
    · subst h0
      refine (Go.Proofs.AnyF.slices_SortFunc_none Tryz.laysSort A c _ w).mono ?_
      rintro e w' ⟨rfl, rfl⟩
      exact ⟨_, ρ, rfl, hm, .tup _ _ rfl (fun i y z hy => by simp at hy), fun x u hx => hx⟩
    have hpos : 0 < l.length := List.length_pos_iff.2 h0
    cases hk : ρ 0 with
    | none => rw [hk] at g2; omega
    | some b =>
    rw [hk] at g2
    obtain ⟨g3, arr, fz, g4, g5⟩ := g2
    have hA := g3 (by omega); subst hA
    obtain ⟨hf, arr', fz', g6, g7, g8, g9⟩ := row_cell hm hM0 hk
    rw [g4] at g6; cases g6
    have hone := row_one hm hM0 hk (by omega) g4
    simp only [Nat.zero_add, Nat.zero_mul, List.length_map] at *
    have hbw : b < w.heap.size := hm.lt (by simp) hk
    letI : Inhabited (Fin l.length) := ⟨⟨0, hpos⟩⟩
    obtain ⟨enc, henc⟩ : ∃ enc : Fin l.length → List Value, ∀ i, enc i = (arr.toList.drop (i.val * 3)).take 3 := ⟨_, fun _ => rfl⟩
    have hek : ∀ x, (enc x).length = 3 := fun x => by have := x.isLt; rw [henc]; simp; omega
    have heg : ∀ (x : Fin l.length) j, j < 3 → (enc x)[j]? = arr[x.val * 3 + j]? := fun x j hj => by rw [henc, List.getElem?_take_of_lt hj, List.getElem?_drop, Array.getElem?_toList]
    have he1 : ∀ x, ∀ v ∈ enc x, v.oneCell' = true := fun x v hvm => by
      have := x.isLt
      obtain ⟨j, hj⟩ := List.getElem?_of_mem hvm
      have hjl := lt_of_get hj
      rw [hek] at hjl
      rw [heg x j hjl] at hj
      obtain ⟨u, h1, h2⟩ := hone (x.val * 3 + j) (by omega)
      rw [hj] at h1; cases h1; exact h2
    have hge : ∀ x : Fin l.length, l.getD x.val hp0 = l.get x := fun x => by simp [List.getD]
    have hcells : ∀ x : Fin l.length, ∃ s, enc x = [.int .i64 (l.get x).w, .int .i64 (l.get x).n, s] := fun x => by
      have hx : (l.map hpV)[x.val]? = some (hpV (l.get x)) := by simp
      obtain ⟨u0, a1, a2⟩ := g9 x.val _ 0 _ hx rfl
      obtain ⟨u1, b1, b2⟩ := g9 x.val _ 1 _ hx rfl
      obtain ⟨u2, c1, c2⟩ := g9 x.val _ 2 _ hx rfl
      cases a2; cases b2
      refine ⟨u2, List.ext_getElem? (fun j => ?_)⟩
      match j with
      | 0 => rw [heg x 0 (by omega), a1]; rfl
      | 1 => rw [heg x 1 (by omega), b1]; rfl
      | 2 => rw [heg x 2 (by omega), c1]; rfl
      | j + 3 => rw [List.getElem?_eq_none (by rw [hek]; omega)]; rfl
    obtain ⟨cf, hcf⟩ : ∃ cf : Fin l.length → Fin l.length → Int, ∀ x y, cf x y = cmpH (l.get x) (l.get y) := ⟨_, fun _ _ => rfl⟩
    have hlt : ∀ x y, ltOf cf x y = decide (ltH (l.get x) (l.get y)) := fun x y => by
      show decide (cf x y < 0) = _
      rw [hcf]
      exact decide_eq_decide.2 (cmpH_lt _ _)
    have hswo : SWO (ltOf cf) := ⟨fun x => by rw [hlt]; simp [ltH_irr], fun x y z h1 h2 => by
      rw [hlt] at *
      simp only [decide_eq_true_eq] at *
      exact ltH_trans h1 h2, fun x y z h1 h2 => by
      rw [hlt] at *
      simp only [decide_eq_false_iff_not] at *
      unfold ltH at *; omega⟩
    have htot : ∀ x y, (ltOf cf) x y = false → (ltOf cf) y x = false → x = y := fun x y h1 h2 => by
      rw [hlt] at *
      simp only [decide_eq_false_iff_not] at *
      by_cases e : x = y
      · exact e
      · exfalso
        have hne : (l.get x).n ≠ (l.get y).n := by
          have hg := List.pairwise_iff_getElem.1 hd
          have hv : x.val ≠ y.val := fun e' => e (Fin.ext e')
          rcases Nat.lt_or_gt_of_ne hv with h | h
          · exact hg x.val y.val x.isLt y.isLt h
          · exact fun e => hg y.val x.val y.isLt x.isLt h e.symm
        unfold ltH at *; omega
    have hlays : CmpLays Tryz.prog 57 #[] enc 3 cf b 0 ((List.finRange l.length).toArray).size w := fun m os dk hdk x y => by
      obtain ⟨s, hs⟩ := hcells x
      obtain ⟨t, ht⟩ := hcells y
      rw [hs, ht, hcf, cmpH_if]
      exact Tryz.order_w _ _ _ _ s t _
    have hH : HoldsK enc 3 w b 0 (List.finRange l.length).toArray := fun j hj => by
      have hj' : j < l.length * 3 := by simpa using hj
      have hd3 : j / 3 < l.length := by omega
      have hfi : ((List.finRange l.length).toArray)[j / 3]! = ⟨j / 3, hd3⟩ := by
        simp [hd3]
      refine ⟨?_, ?_⟩
      · rw [get_flatK _ _ _ _ (by simpa using hj), hfi, Nat.zero_add, cell_of_cells g4]
        have h3 := heg ⟨j / 3, hd3⟩ (j % 3) (Nat.mod_lt _ (by omega))
        rw [show (⟨j / 3, hd3⟩ : Fin l.length).val * 3 + j % 3 = j from by show j / 3 * 3 + j % 3 = j; omega] at h3
        have h4 : j % 3 < (enc ⟨j / 3, hd3⟩).length := by rw [hek]; exact Nat.mod_lt _ (by omega)
        rw [← h3]
        simp only [id]
        rw [List.getElem?_eq_getElem h4, getElem!_pos (enc ⟨j / 3, hd3⟩) (j % 3) h4]
      · simp only [World.frozen?, g4]
        exact g7 _ (by omega)
    have hS := Go.Proofs.AnyQ.slices_SortFunc_total Tryz.laysSort 3 Tryz.isAgg84 Tryz.sizeOf84 enc hek he1 cf hswo 57 #[] b 0 c (List.finRange l.length).toArray w (enters_of Tryz.func57 (by kernel_rfl) rfl) hlays hH hbw (by simp; omega) htot
    simp only [List.size_toArray, List.length_finRange] at hS
    refine hS.mono ?_
    rintro e w' ⟨rfl, m, os, rfl⟩
    obtain ⟨D, hD⟩ : ∃ D, D = (List.finRange l.length).mergeSort fun x y => !(ltOf cf) y x := ⟨_, rfl⟩
    rw [← hD]
    have hDp : D.Perm (List.finRange l.length) := by rw [hD]; exact List.mergeSort_perm _ _
    have hDl : D.length = l.length := by rw [hDp.length_eq, List.length_finRange]
    have hDs : D.map l.get = srtH l := srt_fin l hd D hDp (by
      rw [hD]
      refine (List.pairwise_mergeSort (fun a b c h1 h2 => ?_) (fun a b => ?_) _).imp (fun h => ?_)
      · simp only [hlt, Bool.not_eq_true', decide_eq_false_iff_not] at *
        unfold ltH at *; omega
      · simp only [hlt, Bool.or_eq_true, Bool.not_eq_true', decide_eq_false_iff_not]
        unfold ltH; omega
      · simpa only [hlt, Bool.not_eq_true', decide_eq_false_iff_not] using h)
    obtain ⟨w1, arr', k1, k2, k3, k4, k5⟩ := sorted_block enc 3 w b m D.toArray os g4 (by simp only [List.size_toArray, hDl]; omega)
    rw [k5]
    have hml : ((srtH l).map hpV).length = l.length := by rw [List.length_map, hsl]
    obtain ⟨hm2, hev⟩ := step_writerow hm hM0 hk (xs' := (srtH l).map hpV) (by simp [hsl]) k1 k2 (fun arr4 fz4 h4 => by rw [g4] at h4; cases h4; exact ⟨rfl, k3⟩) (by rw [hml, k3]; omega)
      (fun i x hx => by
        rw [List.getElem?_map] at hx
        obtain ⟨a, _, rfl⟩ := Option.map_eq_some_iff.1 hx
        rfl)
      (fun i x j y hx hy => by
        have hil := lt_of_get hx
        rw [hml] at hil
        rw [← hDs, List.map_map, List.getElem?_map, List.getElem?_eq_getElem (by omega), Option.map_some] at hx
        cases hx
        have hj : j < 3 := lt_of_get hy
        obtain ⟨u, u1, u2⟩ := g9 (D[i]'(by omega)).val _ j y (by simp) hy
        refine ⟨u, ?_, u2⟩
        rw [k4 _ (by simp only [List.size_toArray, hDl]; omega)]
        have e1 : (i * 3 + j) / 3 = i := by omega
        have e2 : (i * 3 + j) % 3 = j := by omega
        have hDi : D.toArray[i]! = D[i]'(by omega) := by simp [hil, hDl]
        have h4 : j < (enc (D[i]'(by omega))).length := by rw [hek]; exact hj
        rw [e1, e2, hDi, getElem!_pos (enc (D[i]'(by omega))) j h4, ← List.getElem?_eq_getElem h4, heg _ j hj]
        exact u1)
    have hgs : w1.heap.size ≤ (grow w1 os).heap.size := by simp [grow]
    have hgo : ∀ j, j < w1.heap.size → (grow w1 os).heap[j]? = w1.heap[j]? := fun j hj => by
      show (w1.heap ++ os)[j]? = _
      rw [Array.getElem?_append_left hj]
    have hev2 := Evo.world (M := [MO.row true 84 3 ((srtH l).map hpV)]) (ρ := ρ) (E := excl X [MO.row true 84 3 ((srtH l).map hpV)] ρ) hgs hgo
    have hm3 := MemOk.world hm2 (w' := grow w1 os) ⟨hm2.keep.os, hm2.keep.tape, hm2.keep.output, Nat.le_trans hm2.keep.size hgs, fun j hj hO => (hgo j (Nat.lt_of_lt_of_le hj hm2.keep.size)).trans (hm2.keep.block j hj hO)⟩ hgs hgo
    exact ⟨_, ρ, rfl, hm3, .tup _ _ rfl (fun i y z hy => by simp at hy), fun x u hx => (hx.mono hev).mono hev2⟩

end Go.Proofs.YtpjncojljamacaaGreat.AM
