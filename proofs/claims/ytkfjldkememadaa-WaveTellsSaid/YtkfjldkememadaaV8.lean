
/- slices.Backward of a row of rows of counted bits. No condition. -/
import Derived.RangeFuncBound
import Derived.RangeFuncCalls
import Derived.RangeFuncLeaves
import Derived.Shelf.Abstract
import Derived.Shelf.RegionOpen
import Derived.WalkKit
import Derived.OwnWalkIn
import Derived.TacticsInMore
import Derived.LoopNIn
import Derived.LoopIn
import Derived.Test.YtkfjldkememadaaV7
set_option linter.unusedVariables false
set_option linter.unusedSimpArgs false
set_option maxRecDepth 100000
namespace Go.Proofs.Ytkfjldkememadaa.AM
open Go Go.RowKit Go.Shelf

section
attribute [local go_sem] Oper.semAt_some
set_option maxHeartbeats 2000000 in
theorem back1R_in (F : Fence) (hF : ∀ f, F.fn f) (hro : F.round = none) (n : Nat) (l Bx b off len cap : Nat) (J : Nat → World → Prop) (u : Nat → Nat → Value) (hdp : F.depth = none)
    (hY : ∀ k W, J k W → k < len → YieldAt F (n - 1) Try.prog l #[.int .i64 ((len : Int) - 1 - k), .agg #[u (len - 1 - k) 0, u (len - 1 - k) 1, u (len - 1 - k) 2, u (len - 1 - k) 3, u (len - 1 - k) 4, u (len - 1 - k) 5, u (len - 1 - k) 6]] W fun e W' => e = .returned (.bool true) ∧ J (k + 1) W')
    (hBx : ∀ k W, J k W → W.cell? ⟨Bx, 0, none⟩ = some (.slice (some ⟨b, off, none⟩) len cap))
    (hc : ∀ k W, J k W → ∀ j, j < len → W.cell? ⟨b, off + j * 7, none⟩ = some (u j 0) ∧ W.cell? ⟨b, off + j * 7 + 1, none⟩ = some (u j 1) ∧ W.cell? ⟨b, off + j * 7 + 2, none⟩ = some (u j 2) ∧ W.cell? ⟨b, off + j * 7 + 3, none⟩ = some (u j 3) ∧ W.cell? ⟨b, off + j * 7 + 4, none⟩ = some (u j 4) ∧ W.cell? ⟨b, off + j * 7 + 5, none⟩ = some (u j 5) ∧ W.cell? ⟨b, off + j * 7 + 6, none⟩ = some (u j 6))
    (W : World) (h0 : J 0 W) (hlen : len ≤ 1000000) : CallsIn F n Try.prog 68 #[.func (.yield l) #[] #[], .pointer (some ⟨Bx, 0, none⟩)] W fun e W' => (∃ v, e = .returned v) ∧ J len W' := by
  have hfn := hF 68
  refine callsIn_of_wp Try.func68 rfl hfn ?_ hro
  simp only [Try.ntmps68, List.size_toArray, List.length_cons, List.length_nil, Nat.reduceAdd, Nat.reduceSub, Array.replicate_succ, Array.replicate_zero, List.push_toArray, List.append_toArray, List.nil_append, List.cons_append]
  have hb0 := hBx 0 W h0
  have hdd : F.depth.isSome = true → 1 ≤ n := by rw [hdp]; simp
  gi_wp2
  gi_loopw [3] (fun i wr => ∃ k : Nat, k ≤ len ∧ i = .int .i64 ((len : Int) - 1 - k) ∧ J k wr)
    (fun i _ => (intOf i + 1).toNat)
  case atStart => exact ⟨0, Nat.zero_le _, by simp, h0⟩
  case round =>
    obtain ⟨k, hk, rfl, hJs⟩ := hrel
    have hb1 := hBx k wr hJs
    by_cases hlt : k < len
    · obtain ⟨fn, tmps, assign, body, hy, hR⟩ := hY k wr hJs hlt
      obtain ⟨hc1, hc2, hc3, hc4, hc5, hc6, hc7⟩ := hc k wr hJs (len - 1 - k) (by omega)
      gi_wp2
      refine hR.mono ?_
      rintro e W3 ⟨rfl, hJ3⟩
      gi_wp2
      go_roundw
      case rel => exact ⟨k + 1, by omega, by simp only [Value.int.injEq, true_and]; omega, hJ3⟩
      case measure => simp [intOf]; omega
    · obtain rfl : k = len := by omega
      gi_wp2
      go_end0
      exact ⟨⟨_, rfl⟩, hJs⟩
set_option maxHeartbeats 2000000 in
theorem back1R_nil (F : Fence) (hF : ∀ f, F.fn f) (hro : F.round = none) (n : Nat) (l Bx cap : Nat) (A : Option Addr) (J : Nat → World → Prop)
    (W : World) (hBx : W.cell? ⟨Bx, 0, none⟩ = some (.slice A 0 cap)) (h0 : J 0 W) : CallsIn F n Try.prog 68 #[.func (.yield l) #[] #[], .pointer (some ⟨Bx, 0, none⟩)] W fun e W' => (∃ v, e = .returned v) ∧ J 0 W' := by
  have hfn := hF 68
  refine callsIn_of_wp Try.func68 rfl hfn ?_ hro
  simp only [Try.ntmps68, List.size_toArray, List.length_cons, List.length_nil, Nat.reduceAdd, Nat.reduceSub, Array.replicate_succ, Array.replicate_zero, List.push_toArray, List.append_toArray, List.nil_append, List.cons_append]
  gi_wp2
  gi_loopw [3] (fun i wr => i = .int .i64 (-1) ∧ J 0 wr) (fun i _ => 0)
  case atStart => exact ⟨rfl, h0⟩
  case round =>
    obtain ⟨rfl, hJs⟩ := hrel
    gi_wp2
    go_end0
    exact ⟨⟨_, rfl⟩, hJs⟩
end

def backR (xs : List IV) : List (List IV) := (List.range xs.length).map (fun (i : Nat) => [IV.int .i64 ((xs.length : Int) - 1 - (i : Int)), xs[xs.length - 1 - i]?.getD (.tup [])])
theorem backR_len (xs : List IV) : (backR xs).length = xs.length := by simp [backR]
theorem backR_get {xs : List IV} {i : Nat} (h : i < xs.length) : (backR xs)[i]? = some [IV.int .i64 ((xs.length : Int) - 1 - (i : Int)), xs[xs.length - 1 - i]?.getD (.tup [])] := by simp [backR, h]

theorem backR_iter {M : List MO} {k : Nat} {l : List Nat} {xs : List IV} (hM : M[k]? = some (.var 27 [.iv (.sl 7 xs)])) (hkl : k ∉ l) (hx : ∀ x ∈ xs, ∃ B, x = rankV B) (hlen : xs.length ≤ 1000000) :
    Iter Try.prog 68 M [.mp k 0] l (backR xs) := by
  refine ⟨by unfold Callable; kernel_rfl, fun X O w0 w ρ vs hm hsz hv => ?_⟩
  obtain ⟨v, rfl⟩ : ∃ v, vs = #[v] := by
    obtain ⟨vs⟩ := vs
    cases vs with
    | nil => simp at hsz
    | cons v t => cases t with
      | nil => exact ⟨v, rfl⟩
      | cons => simp at hsz
  obtain ⟨Bx, hBx, rfl⟩ : ∃ Bx, ρ k = some Bx ∧ v = .pointer (some ⟨Bx, 0, none⟩) := by
    have := hv 0 _ v rfl rfl
    cases this with | mp _ _ T cs b h hb => exact ⟨b, hb, rfl⟩
  obtain ⟨b', arr, fz, g1, g2, g3, g4, g5⟩ := hm.obj k _ hM
  obtain rfl : b' = Bx := by rw [hBx] at g1; cases g1; rfl
  obtain ⟨uv, huv⟩ : ∃ uv, arr[0]? = some uv := ⟨_, Array.getElem?_eq_getElem (by simp at g4; omega)⟩
  have hrep := g5 0 _ uv rfl huv
  have hcell : w.cell? ⟨b', 0, none⟩ = some uv := by
    unfold World.cell?
    rw [g2]
    simp [huv]
  have hmine : ∀ (k2 : Nat) (o : MO), k2 ∈ l → M[k2]? = some o → o.mut = true → ρ k2 ≠ some b' := fun k2 o h1 h2 _ h3 => by
    have := hm.inj k k2 b' (lt_of_get hM) (lt_of_get h2) hBx h3
    subst this; exact hkl h1
  cases hrep with
  | iv _ _ hrep =>
  cases hrep with
  | sl0 sz A c =>
    refine ⟨[], fun b => b = b', by simp [backR], by simp, fun b hb => ?_, fun ly J W hJZ hY h0 => ?_⟩
    · subst hb; exact ⟨⟨_, _, _, g2⟩, hmine⟩
    · have h1 : W.cell? ⟨b', 0, none⟩ = some (.slice A 0 c) := (World.cell?_of_block (w := w) (hJZ 0 W h0 b' rfl)).trans hcell
      exact back1R_nil (fr none) (fun _ => trivial) rfl 0 ly b' c A J W h1 h0
  | sl sz xs' bs o c u hc hE hb hs hu hr =>
    by_cases hz : xs.length = 0
    · refine ⟨[], fun b => b = b', by simp [backR, hz], by simp, fun b hb => ?_, fun ly J W hJZ hY h0 => ?_⟩
      · subst hb; exact ⟨⟨_, _, _, g2⟩, hmine⟩
      · have h1 : W.cell? ⟨b', 0, none⟩ = some (.slice (some ⟨bs, o, none⟩) xs.length c) := (World.cell?_of_block (w := w) (hJZ 0 W h0 b' rfl)).trans hcell
        rw [hz] at h1
        exact back1R_nil (fr none) (fun _ => trivial) rfl 0 ly b' c _ J W h1 h0
    · refine ⟨(List.range xs.length).map (fun (i : Nat) => #[.int .i64 ((xs.length : Int) - 1 - (i : Int)), .agg #[u (xs.length - 1 - i) 0, u (xs.length - 1 - i) 1, u (xs.length - 1 - i) 2, u (xs.length - 1 - i) 3, u (xs.length - 1 - i) 4, u (xs.length - 1 - i) 5, u (xs.length - 1 - i) 6]]), fun b => b = b' ∨ b = bs, by simp [backR], ?_, ?_, ?_⟩
      · intro i y u1 h1 h2
        have hi : i < xs.length := by have := lt_of_get h1; rwa [backR_len] at this
        rw [backR_get hi] at h1
        simp only [List.getElem?_map, List.getElem?_range hi, Option.map_some, Option.some.injEq] at h1 h2
        subst h1 h2
        refine ⟨rfl, fun j x v hj hv => ?_⟩
        match j, hj, hv with
        | 0, hj, hv => simp at hj hv; subst hj hv; exact .int _ _
        | 1, hj, hv =>
          have hlt : xs.length - 1 - i < xs.length := by omega
          have hget : xs[xs.length - 1 - i]? = some xs[xs.length - 1 - i] := List.getElem?_eq_getElem hlt
          obtain ⟨B, hab⟩ := hx _ (List.getElem_mem hlt)
          simp only [List.getElem?_cons_succ, List.getElem?_cons_zero, Option.some.injEq, hget, Option.getD_some] at hj
          rw [hab] at hget hj
          subst hj
          have hv' : v = .agg #[u (xs.length - 1 - i) 0, u (xs.length - 1 - i) 1, u (xs.length - 1 - i) 2, u (xs.length - 1 - i) 3, u (xs.length - 1 - i) 4, u (xs.length - 1 - i) 5, u (xs.length - 1 - i) 6] := by simpa using hv.symm
          subst hv'
          refine .agg _ _ rfl (fun q y z hq hz => ?_)
          match q, hq, hz with
          | 0, hq, hz =>
            simp at hq hz; subst hq hz
            exact hr _ _ 0 _ hget rfl
          | 1, hq, hz =>
            simp at hq hz; subst hq hz
            exact hr _ _ 1 _ hget rfl
          | 2, hq, hz =>
            simp at hq hz; subst hq hz
            exact hr _ _ 2 _ hget rfl
          | 3, hq, hz =>
            simp at hq hz; subst hq hz
            exact hr _ _ 3 _ hget rfl
          | 4, hq, hz =>
            simp at hq hz; subst hq hz
            exact hr _ _ 4 _ hget rfl
          | 5, hq, hz =>
            simp at hq hz; subst hq hz
            exact hr _ _ 5 _ hget rfl
          | 6, hq, hz =>
            simp at hq hz; subst hq hz
            exact hr _ _ 6 _ hget rfl
          | q + 7, hq, hz => simp at hq
        | j + 2, hj, hv => simp at hj
      · rintro b (rfl | rfl)
        · exact ⟨⟨_, _, _, g2⟩, hmine⟩
        · have := hu 0 0 (by omega) (by omega)
          obtain ⟨ob, ho, hcc⟩ := cells_of_cell this
          refine ⟨?_, fun k2 o2 h1 h2 h3 h4 => hE (.inr ⟨k2, o2, h2, h3, h4⟩)⟩
          cases ob with
          | cells arr2 T2 fz2 => exact ⟨_, _, _, ho⟩
          | _ => cases hcc
      · intro ly J W hJZ hY h0
        have h1 : ∀ k W, J k W → W.cell? ⟨b', 0, none⟩ = some (.slice (some ⟨bs, o, none⟩) xs.length c) := fun k W hk => (World.cell?_of_block (w := w) (hJZ k W hk b' (.inl rfl))).trans hcell
        have := back1R_in (fr none) (fun _ => trivial) rfl 0 ly b' bs o xs.length c J u rfl (fun k W hk hlt => hY k _ W (by simp [hlt]) hk) h1
          (fun k W hk j hj => by
            have e := hJZ k W hk bs (.inr rfl)
            exact ⟨(World.cell?_of_block (w := w) e).trans (by simpa using hu j 0 hj (by omega)), (World.cell?_of_block (w := w) e).trans (by simpa [Nat.add_assoc] using hu j 1 hj (by omega)), (World.cell?_of_block (w := w) e).trans (by simpa [Nat.add_assoc] using hu j 2 hj (by omega)), (World.cell?_of_block (w := w) e).trans (by simpa [Nat.add_assoc] using hu j 3 hj (by omega)), (World.cell?_of_block (w := w) e).trans (by simpa [Nat.add_assoc] using hu j 4 hj (by omega)), (World.cell?_of_block (w := w) e).trans (by simpa [Nat.add_assoc] using hu j 5 hj (by omega)), (World.cell?_of_block (w := w) e).trans (by simpa [Nat.add_assoc] using hu j 6 hj (by omega))⟩) W h0 hlen
        simpa using this
theorem BackwardR_M (xs : List IV) : MCalls Try.prog 50 [.iv (.sl 7 xs)] [] (.fn 68 [.mp 0 0]) [.var 27 [.iv (.sl 7 xs)]] := by
  refine MCalls.of_aw Try.func50 rfl (by unfold Callable; kernel_rfl) (by kernel_rfl) (by simp [Try.ntmps50]) (by (simp (disch := first | exact dq | fail) only [go_sem])) ?_; rw [Try.ntmps50, Try.results50]; (simp (disch := first | exact dq | fail) only [go_sem])
  (repeat' (first
    | ((first | with_reducible (first | refine aw_seq ?_ | refine aw_region (aops_run ?_)) | (with_reducible refine aw_regionD (fun _ => .p) mixed ?_ (dops_run ?_); (· kernel_rfl)) | (with_reducible refine aw_regionD (fun _ => .r) mixed ?_ (dops_run ?_); (· kernel_rfl)) | with_reducible (first | refine aw_condK ?_ | refine aw_skip ?_ | refine aw_ret ?_ | refine aw_exit ?_ | refine aw_label ?_ | refine aw_block ?_ | refine aw_scope ?_ | refine And.intro ?_ ?_)) <;> (try (simp (disch := first | exact dq | fail) only [go_sem])))
    | (with_reducible (first | refine wantK_split (fun h => ?_) (fun h => ?_) | refine condK_split (fun h => ?_) (fun h => ?_) | refine pickV_split (fun h => ?_) (fun h => ?_)) <;> (try (simp (disch := first | exact dq | fail) only [go_sem] at h)) <;> (try (simp (disch := first | exact dq | fail) only [go_sem, h])))))
  all_goals (try omega)
  refine fin_k [0] ?_
  (simp (disch := first | exact dq | fail) only [go_sem])
end Go.Proofs.Ytkfjldkememadaa.AM
