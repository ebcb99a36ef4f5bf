
/- slices.Backward of a row of levels (two rows of numbers each). Chapter 7: small functions. No condition but lengths that fit. Chapter 7: which of two suffixes comes first. Chapter 7: a level's end. Chapter 7: where the way down ends, and that ranks have the order of the numbers, plainly. Chapter 7: the order of suffixes as a list; slices.Backward; ranks in a row of one's own. -/
import Derived.RangeFuncBound
import Derived.RangeFuncCalls
import Derived.RangeFuncLeaves
import Derived.Shelf.Abstract
import Derived.Shelf.RegionOpen
import Derived.WalkKit
import Derived.OwnWalkIn
import Derived.TacticsInMore
import Derived.LoopNIn
import Derived.LoopIn
import Derived.Test.YtejhomoafhnipaaAD
import Derived.Test.YtejhomoafhnipaaGG
import Derived.Test.YtejhomoafhnipaaQC
import Derived.Test.YtejhomoafhnipaaSA

set_option linter.unusedVariables false
set_option linter.unusedSimpArgs false
set_option maxRecDepth 100000
namespace Go.Proofs.Ytejhomoafhnipaa.AM
open Go Go.RowKit Go.Shelf

section
attribute [local go_sem] Oper.semAt_some
set_option maxHeartbeats 2000000 in
theorem back1_in (F : Fence) (hF : ∀ f, F.fn f) (hro : F.round = none) (n : Nat) (l Bx b off len cap : Nat) (J : Nat → World → Prop) (u : Nat → Nat → Value) (hdp : F.depth = none)
    (hY : ∀ k W, J k W → k < len → YieldAt F (n - 1) Try.prog l #[.int .i64 ((len : Int) - 1 - k), .agg #[u (len - 1 - k) 0, u (len - 1 - k) 1]] W fun e W' => e = .returned (.bool true) ∧ J (k + 1) W')
    (hBx : ∀ k W, J k W → W.cell? ⟨Bx, 0, none⟩ = some (.slice (some ⟨b, off, none⟩) len cap))
    (hc : ∀ k W, J k W → ∀ j, j < len → W.cell? ⟨b, off + j * 2, none⟩ = some (u j 0) ∧ W.cell? ⟨b, off + j * 2 + 1, none⟩ = some (u j 1))
    (W : World) (h0 : J 0 W) (hlen : len ≤ 1000000) : CallsIn F n Try.prog 70 #[.func (.yield l) #[] #[], .pointer (some ⟨Bx, 0, none⟩)] W fun e W' => (∃ v, e = .returned v) ∧ J len W' := by
  have hfn := hF 70
  refine callsIn_of_wp Try.func70 rfl hfn ?_ hro
  simp only [Try.ntmps70, List.size_toArray, List.length_cons, List.length_nil, Nat.reduceAdd, Nat.reduceSub, Array.replicate_succ, Array.replicate_zero, List.push_toArray, List.append_toArray, List.nil_append, List.cons_append]
  have hb0 := hBx 0 W h0
  have hdd : F.depth.isSome = true → 1 ≤ n := by rw [hdp]; simp
  gi_wp2
  gi_loopw [3] (fun i wr => ∃ k : Nat, k ≤ len ∧ i = .int .i64 ((len : Int) - 1 - k) ∧ J k wr)
    (fun i _ => (intOf i + 1).toNat)
  case atStart => exact ⟨0, Nat.zero_le _, by simp, h0⟩
  case round =>
    obtain ⟨k, hk, rfl, hJs⟩ := hrel
    have hb1 := hBx k wr hJs
    by_cases hlt : k < len
    · obtain ⟨fn, tmps, assign, body, hy, hR⟩ := hY k wr hJs hlt
      obtain ⟨hc1, hc2⟩ := hc k wr hJs (len - 1 - k) (by omega)
      gi_wp2
      refine hR.mono ?_
      rintro e W3 ⟨rfl, hJ3⟩
      gi_wp2
      go_roundw
      case rel => exact ⟨k + 1, by omega, by simp only [Value.int.injEq, true_and]; omega, hJ3⟩
      case measure => simp [intOf]; omega
    · obtain rfl : k = len := by omega
      gi_wp2
      go_end0
      exact ⟨⟨_, rfl⟩, hJs⟩
set_option maxHeartbeats 2000000 in
theorem back1_nil (F : Fence) (hF : ∀ f, F.fn f) (hro : F.round = none) (n : Nat) (l Bx cap : Nat) (A : Option Addr) (J : Nat → World → Prop)
    (W : World) (hBx : W.cell? ⟨Bx, 0, none⟩ = some (.slice A 0 cap)) (h0 : J 0 W) : CallsIn F n Try.prog 70 #[.func (.yield l) #[] #[], .pointer (some ⟨Bx, 0, none⟩)] W fun e W' => (∃ v, e = .returned v) ∧ J 0 W' := by
  have hfn := hF 70
  refine callsIn_of_wp Try.func70 rfl hfn ?_ hro
  simp only [Try.ntmps70, List.size_toArray, List.length_cons, List.length_nil, Nat.reduceAdd, Nat.reduceSub, Array.replicate_succ, Array.replicate_zero, List.push_toArray, List.append_toArray, List.nil_append, List.cons_append]
  gi_wp2
  gi_loopw [3] (fun i wr => i = .int .i64 (-1) ∧ J 0 wr) (fun i _ => 0)
  case atStart => exact ⟨rfl, h0⟩
  case round =>
    obtain ⟨rfl, hJs⟩ := hrel
    gi_wp2
    go_end0
    exact ⟨⟨_, rfl⟩, hJs⟩
end

def backL (xs : List IV) : List (List IV) := (List.range xs.length).map (fun (i : Nat) => [IV.int .i64 ((xs.length : Int) - 1 - (i : Int)), xs[xs.length - 1 - i]?.getD (.tup [])])
theorem backL_len (xs : List IV) : (backL xs).length = xs.length := by simp [backL]
theorem backL_get {xs : List IV} {i : Nat} (h : i < xs.length) : (backL xs)[i]? = some [IV.int .i64 ((xs.length : Int) - 1 - (i : Int)), xs[xs.length - 1 - i]?.getD (.tup [])] := by simp [backL, h]

theorem back_iter {M : List MO} {k : Nat} {l : List Nat} {xs : List IV} (hM : M[k]? = some (.var 53 [.iv (.sl 2 xs)])) (hkl : k ∉ l) (hx : ∀ x ∈ xs, ∃ a b, x = .agg [a, b] ∧ a.one = true ∧ b.one = true) (hlen : xs.length ≤ 1000000) :
    Iter Try.prog 70 M [.mp k 0] l (backL xs) := by
  refine ⟨by unfold Callable; kernel_rfl, fun X O w0 w ρ vs hm hsz hv => ?_⟩
  obtain ⟨v, rfl⟩ : ∃ v, vs = #[v] := by
    obtain ⟨vs⟩ := vs
    cases vs with
    | nil => simp at hsz
    | cons v t => cases t with
      | nil => exact ⟨v, rfl⟩
      | cons => simp at hsz
  obtain ⟨Bx, hBx, rfl⟩ : ∃ Bx, ρ k = some Bx ∧ v = .pointer (some ⟨Bx, 0, none⟩) := by
    have := hv 0 _ v rfl rfl
    cases this with | mp _ _ T cs b h hb => exact ⟨b, hb, rfl⟩
  obtain ⟨b', arr, fz, g1, g2, g3, g4, g5⟩ := hm.obj k _ hM
  obtain rfl : b' = Bx := by rw [hBx] at g1; cases g1; rfl
  obtain ⟨uv, huv⟩ : ∃ uv, arr[0]? = some uv := ⟨_, Array.getElem?_eq_getElem (by simp at g4; omega)⟩
  have hrep := g5 0 _ uv rfl huv
  have hcell : w.cell? ⟨b', 0, none⟩ = some uv := by
    unfold World.cell?
    rw [g2]
    simp [huv]
  have hmine : ∀ (k2 : Nat) (o : MO), k2 ∈ l → M[k2]? = some o → o.mut = true → ρ k2 ≠ some b' := fun k2 o h1 h2 _ h3 => by
    have := hm.inj k k2 b' (lt_of_get hM) (lt_of_get h2) hBx h3
    subst this; exact hkl h1
  cases hrep with
  | iv _ _ hrep =>
  cases hrep with
  | sl0 sz A c =>
    refine ⟨[], fun b => b = b', by simp [backL], by simp, fun b hb => ?_, fun ly J W hJZ hY h0 => ?_⟩
    · subst hb; exact ⟨⟨_, _, _, g2⟩, hmine⟩
    · have h1 : W.cell? ⟨b', 0, none⟩ = some (.slice A 0 c) := (World.cell?_of_block (w := w) (hJZ 0 W h0 b' rfl)).trans hcell
      exact back1_nil (fr none) (fun _ => trivial) rfl 0 ly b' c A J W h1 h0
  | sl sz xs' bs o c u hc hE hb hs hu hr =>
    by_cases hz : xs.length = 0
    · refine ⟨[], fun b => b = b', by simp [backL, hz], by simp, fun b hb => ?_, fun ly J W hJZ hY h0 => ?_⟩
      · subst hb; exact ⟨⟨_, _, _, g2⟩, hmine⟩
      · have h1 : W.cell? ⟨b', 0, none⟩ = some (.slice (some ⟨bs, o, none⟩) xs.length c) := (World.cell?_of_block (w := w) (hJZ 0 W h0 b' rfl)).trans hcell
        rw [hz] at h1
        exact back1_nil (fr none) (fun _ => trivial) rfl 0 ly b' c _ J W h1 h0
    · refine ⟨(List.range xs.length).map (fun (i : Nat) => #[.int .i64 ((xs.length : Int) - 1 - (i : Int)), .agg #[u (xs.length - 1 - i) 0, u (xs.length - 1 - i) 1]]), fun b => b = b' ∨ b = bs, by simp [backL], ?_, ?_, ?_⟩
      · intro i y u1 h1 h2
        have hi : i < xs.length := by have := lt_of_get h1; rwa [backL_len] at this
        rw [backL_get hi] at h1
        simp only [List.getElem?_map, List.getElem?_range hi, Option.map_some, Option.some.injEq] at h1 h2
        subst h1 h2
        refine ⟨rfl, fun j x v hj hv => ?_⟩
        match j, hj, hv with
        | 0, hj, hv => simp at hj hv; subst hj hv; exact .int _ _
        | 1, hj, hv =>
          have hlt : xs.length - 1 - i < xs.length := by omega
          have hget : xs[xs.length - 1 - i]? = some xs[xs.length - 1 - i] := List.getElem?_eq_getElem hlt
          obtain ⟨a, b, hab, h3, h4⟩ := hx _ (List.getElem_mem hlt)
          simp only [List.getElem?_cons_succ, List.getElem?_cons_zero, Option.some.injEq, hget, Option.getD_some] at hj
          rw [hab] at hget hj
          subst hj
          have hv' : v = .agg #[u (xs.length - 1 - i) 0, u (xs.length - 1 - i) 1] := by simpa using hv.symm
          subst hv'
          refine .agg _ _ rfl (fun q y z hq hz => ?_)
          match q, hq, hz with
          | 0, hq, hz =>
            simp at hq hz; subst hq hz
            exact hr _ _ 0 a hget rfl
          | 1, hq, hz =>
            simp at hq hz; subst hq hz
            exact hr _ _ 1 b hget rfl
          | q + 2, hq, hz => simp at hq
        | j + 2, hj, hv => simp at hj
      · rintro b (rfl | rfl)
        · exact ⟨⟨_, _, _, g2⟩, hmine⟩
        · have := hu 0 0 (by omega) (by omega)
          obtain ⟨ob, ho, hcc⟩ := cells_of_cell this
          refine ⟨?_, fun k2 o2 h1 h2 h3 h4 => hE (.inr ⟨k2, o2, h2, h3, h4⟩)⟩
          cases ob with
          | cells arr2 T2 fz2 => exact ⟨_, _, _, ho⟩
          | _ => cases hcc
      · intro ly J W hJZ hY h0
        have h1 : ∀ k W, J k W → W.cell? ⟨b', 0, none⟩ = some (.slice (some ⟨bs, o, none⟩) xs.length c) := fun k W hk => (World.cell?_of_block (w := w) (hJZ k W hk b' (.inl rfl))).trans hcell
        have := back1_in (fr none) (fun _ => trivial) rfl 0 ly b' bs o xs.length c J u rfl (fun k W hk hlt => hY k _ W (by simp [hlt]) hk) h1
          (fun k W hk j hj => by
            have e := hJZ k W hk bs (.inr rfl)
            exact ⟨(World.cell?_of_block (w := w) e).trans (by simpa using hu j 0 hj (by omega)), (World.cell?_of_block (w := w) e).trans (by simpa [Nat.add_assoc] using hu j 1 hj (by omega))⟩) W h0 hlen
        simpa using this
end Go.Proofs.Ytejhomoafhnipaa.AM

set_option linter.unusedVariables false
set_option linter.unusedSimpArgs false
set_option maxRecDepth 20000
namespace Go.Proofs.Ytejhomoafhnipaa.AM
open Go Go.RowKit

theorem at_spec (l : List Int) (i : Nat) (hl : l.length ≤ 1000000) (hi : i ≤ 2000000) : PCalls Try.prog 69 [inl l, .int .i64 i] (.int .i64 (l.getD i 0)) := by
  by_cases h : i < l.length
  · have hc : (i : Int) < l.length := by omega
    refine PCalls.of_aw Try.func69 rfl (by unfold Callable; kernel_rfl) (by kernel_rfl) (by simp [Try.ntmps69]) ?_; rw [Try.ntmps69, Try.results69]; (simp (disch := first | exact dq | fail) only [go_sem])
    (repeat' (first
    | ((first | with_reducible (first | refine aw_seq ?_ | refine aw_region (aops_run ?_)) | (with_reducible refine aw_regionD (fun _ => .p) mixed ?_ (dops_run ?_); (· kernel_rfl)) | (with_reducible refine aw_regionD (fun _ => .r) mixed ?_ (dops_run ?_); (· kernel_rfl)) | with_reducible (first | refine aw_condK ?_ | refine aw_skip ?_ | refine aw_ret ?_ | refine aw_exit ?_ | refine aw_label ?_ | refine aw_block ?_ | refine aw_scope ?_ | refine And.intro ?_ ?_)) <;> (try (simp (disch := first | exact dq | fail) only [go_sem, hc, decide_true])))
    | (with_reducible (first | refine wantK_split (fun h => ?_) (fun h => ?_) | refine condK_split (fun h => ?_) (fun h => ?_) | refine pickV_split (fun h => ?_) (fun h => ?_)) <;> (try (simp (disch := first | exact dq | fail) only [go_sem] at h)) <;> (try (simp (disch := first | exact dq | fail) only [go_sem, h, hc, decide_true])))))
    all_goals (try omega)
  · have hc : ¬ ((i : Int) < l.length) := by omega
    have e : l.getD i 0 = 0 := by simp [List.getD, List.getElem?_eq_none (show l.length ≤ i by omega)]
    rw [e]
    refine PCalls.of_aw Try.func69 rfl (by unfold Callable; kernel_rfl) (by kernel_rfl) (by simp [Try.ntmps69]) ?_; rw [Try.ntmps69, Try.results69]; (simp (disch := first | exact dq | fail) only [go_sem])
    (repeat' (first
    | ((first | with_reducible (first | refine aw_seq ?_ | refine aw_region (aops_run ?_)) | (with_reducible refine aw_regionD (fun _ => .p) mixed ?_ (dops_run ?_); (· kernel_rfl)) | (with_reducible refine aw_regionD (fun _ => .r) mixed ?_ (dops_run ?_); (· kernel_rfl)) | with_reducible (first | refine aw_condK ?_ | refine aw_skip ?_ | refine aw_ret ?_ | refine aw_exit ?_ | refine aw_label ?_ | refine aw_block ?_ | refine aw_scope ?_ | refine And.intro ?_ ?_)) <;> (try (simp (disch := first | exact dq | fail) only [go_sem, hc, decide_false])))
    | (with_reducible (first | refine wantK_split (fun h => ?_) (fun h => ?_) | refine condK_split (fun h => ?_) (fun h => ?_) | refine pickV_split (fun h => ?_) (fun h => ?_)) <;> (try (simp (disch := first | exact dq | fail) only [go_sem] at h)) <;> (try (simp (disch := first | exact dq | fail) only [go_sem, h, hc, decide_false])))))
    all_goals (try omega)
theorem steps_spec (n : Nat) (hn : n ≤ 1000000) : PCalls Try.prog 48 [.int .i64 n] (inl (idL n)) := by
  have he : IV.sl 1 (rowF n (fun m => m)) = inl (idL n) := rowF_inl n _
  rw [← he]
  refine PCalls.of_aw Try.func48 rfl (by unfold Callable; kernel_rfl) (by kernel_rfl) (by simp [Try.ntmps48]) ?_; rw [Try.ntmps48, Try.results48]; (simp (disch := first | exact dq | fail) only [go_sem])
  (repeat' (first
    | ((first | with_reducible (first | refine aw_seq ?_ | refine aw_region (aops_run ?_)) | (with_reducible refine aw_regionD (fun _ => .p) mixed ?_ (dops_run ?_); (· kernel_rfl)) | (with_reducible refine aw_regionD (fun _ => .r) mixed ?_ (dops_run ?_); (· kernel_rfl)) | with_reducible (first | refine aw_condK ?_ | refine aw_skip ?_ | refine aw_ret ?_ | refine aw_exit ?_ | refine aw_label ?_ | refine aw_block ?_ | refine aw_scope ?_ | refine And.intro ?_ ?_)) <;> (try (simp (disch := first | exact dq | fail) only [go_sem])))
    | (with_reducible (first | refine wantK_split (fun h => ?_) (fun h => ?_) | refine condK_split (fun h => ?_) (fun h => ?_) | refine pickV_split (fun h => ?_) (fun h => ?_)) <;> (try (simp (disch := first | exact dq | fail) only [go_sem] at h)) <;> (try (simp (disch := first | exact dq | fail) only [go_sem, h])))))
  all_goals (try omega)
  refine aw_loop (α := Nat) (fun i => ⟨18, sl [(3, .msl 0 0 n n), (7, .msl 0 0 n n), (8, .iv (.int .i64 n)), (9, .iv (.int .i64 i))], [.row true 3 1 (rowF n (fun m => if m < i then m else 0))], 0⟩)
    (fun i => i ≤ n) (fun i => n - i) 0 (wk_by [1] ?_) (by omega) ?_
  · (simp (disch := first | exact dq | fail) only [go_sem, rowF_rep])
    first | rfl | (congr 2) | skip
  rintro i hi
  by_cases h : i < n
  · have hg := rowF_get (fun m => if m < i then (m : Int) else 0) h
    have hs : (rowF n (fun m => if m < i then (m : Int) else 0)).set i (.int .i64 i) = rowF n (fun m => if m < i + 1 then (m : Int) else 0) := by
      rw [rowF_set]
      refine rowF_congr (fun m hm => ?_)
      by_cases e : m = i
      · subst e; rw [if_pos rfl, if_pos (by omega)]
      · rw [if_neg e]
        by_cases h2 : m < i
        · rw [if_pos h2, if_pos (by omega)]
        · rw [if_neg h2, if_neg (by omega)]
    have hl := rowF_len n (fun m => if m < i then (m : Int) else 0)
    (repeat' (first
    | ((first | with_reducible (first | refine aw_seq ?_ | refine aw_region (aops_run ?_)) | (with_reducible refine aw_regionD (fun _ => .p) mixed ?_ (dops_run ?_); (· kernel_rfl)) | (with_reducible refine aw_regionD (fun _ => .r) mixed ?_ (dops_run ?_); (· kernel_rfl)) | with_reducible (first | refine aw_condK ?_ | refine aw_skip ?_ | refine aw_ret ?_ | refine aw_exit ?_ | refine aw_label ?_ | refine aw_block ?_ | refine aw_scope ?_ | refine And.intro ?_ ?_)) <;> (try (simp (disch := first | exact dq | fail) only [go_sem, hg, hs, hl])))
    | (with_reducible (first | refine wantK_split (fun h => ?_) (fun h => ?_) | refine condK_split (fun h => ?_) (fun h => ?_) | refine pickV_split (fun h => ?_) (fun h => ?_)) <;> (try (simp (disch := first | exact dq | fail) only [go_sem] at h)) <;> (try (simp (disch := first | exact dq | fail) only [go_sem, h, hg, hs, hl])))))
    all_goals (try omega)
    refine ⟨i + 1, by omega, wk_by [0] ?_, by omega⟩
    (simp (disch := first | exact dq | fail) only [go_sem])
  · have e : rowF n (fun m => if m < i then (m : Int) else 0) = rowF n (fun m => m) := rowF_congr (fun m hm => by rw [if_pos (by omega)])
    have hl := rowF_len n (fun m => (m : Int))
    rw [e]
    (repeat' (first
    | ((first | with_reducible (first | refine aw_seq ?_ | refine aw_region (aops_run ?_)) | (with_reducible refine aw_regionD (fun _ => .p) mixed ?_ (dops_run ?_); (· kernel_rfl)) | (with_reducible refine aw_regionD (fun _ => .r) mixed ?_ (dops_run ?_); (· kernel_rfl)) | with_reducible (first | refine aw_condK ?_ | refine aw_skip ?_ | refine aw_ret ?_ | refine aw_exit ?_ | refine aw_label ?_ | refine aw_block ?_ | refine aw_scope ?_ | refine And.intro ?_ ?_)) <;> (try (simp (disch := first | exact dq | fail) only [go_sem, hl])))
    | (with_reducible (first | refine wantK_split (fun h => ?_) (fun h => ?_) | refine condK_split (fun h => ?_) (fun h => ?_) | refine pickV_split (fun h => ?_) (fun h => ?_)) <;> (try (simp (disch := first | exact dq | fail) only [go_sem] at h)) <;> (try (simp (disch := first | exact dq | fail) only [go_sem, h, hl])))))
    all_goals (try omega)
    all_goals rw [List.take_of_length_le (by rw [hl]; exact Nat.le_refl n)]
def lev (row places : List Int) : IV := .agg [inl row, inl places]
theorem begin_spec (l : List Int) (h2 : 2 ≤ l.length) (hl : l.length ≤ 300000) : PCalls Try.prog 49 [inl l] (lev l (pls l.length 2)) := by
  refine PCalls.of_aw Try.func49 rfl (by unfold Callable; kernel_rfl) (by kernel_rfl) (by simp [Try.ntmps49]) ?_; rw [Try.ntmps49, Try.results49]; (simp (disch := first | exact dq | fail) only [go_sem])
  (repeat' (first
    | ((first | with_reducible (first | refine aw_seq ?_ | refine aw_region (aops_run ?_)) | (with_reducible refine aw_regionD (fun _ => .p) mixed ?_ (dops_run ?_); (· kernel_rfl)) | (with_reducible refine aw_regionD (fun _ => .r) mixed ?_ (dops_run ?_); (· kernel_rfl)) | with_reducible (first | refine aw_condK ?_ | refine aw_skip ?_ | refine aw_ret ?_ | refine aw_exit ?_ | refine aw_label ?_ | refine aw_block ?_ | refine aw_scope ?_ | refine And.intro ?_ ?_)) <;> (try (simp (disch := first | exact dq | fail) only [go_sem])))
    | (with_reducible (first | refine wantK_split (fun h => ?_) (fun h => ?_) | refine condK_split (fun h => ?_) (fun h => ?_) | refine pickV_split (fun h => ?_) (fun h => ?_)) <;> (try (simp (disch := first | exact dq | fail) only [go_sem] at h)) <;> (try (simp (disch := first | exact dq | fail) only [go_sem, h])))))
  refine aw_loop (α := Nat) (fun r => ⟨24, sl [(0, .iv (inl l)), (2, .mp 0 0), (3, .msl 1 0 (pls l.length r).length (pls l.length r).length), (4, .iv (.int .i64 ((r + 1 : Nat) : Int)))], [.var 55 [.nilsl, .nilsl], .row true 3 1 ((pls l.length r).map (IV.int .i64))], 0⟩)
    (fun r => r ≤ 2) (fun r => 2 - r) 0 (wk_by [0, 1] ?_) (by omega) ?_
  · (simp (disch := first | exact dq | fail) only [go_sem])
    exact ⟨rfl, rfl⟩
  rintro r hr
  have hpl := pls_le l.length r
  by_cases h : r < 2
  · have hc : ((r + 1 : Nat) : Int) < 3 := by omega
    have hpr : r * (l.length + 3) ≤ 2 * (l.length + 3) := Nat.mul_le_mul_right _ hr
    (repeat' (first
    | ((first | with_reducible (first | refine aw_seq ?_ | refine aw_region (aops_run ?_)) | (with_reducible refine aw_regionD (fun _ => .p) mixed ?_ (dops_run ?_); (· kernel_rfl)) | (with_reducible refine aw_regionD (fun _ => .r) mixed ?_ (dops_run ?_); (· kernel_rfl)) | with_reducible (first | refine aw_condK ?_ | refine aw_skip ?_ | refine aw_ret ?_ | refine aw_exit ?_ | refine aw_label ?_ | refine aw_block ?_ | refine aw_scope ?_ | refine And.intro ?_ ?_)) <;> (try (simp (disch := first | exact dq | fail) only [go_sem, hc, decide_true])))
    | (with_reducible (first | refine wantK_split (fun h => ?_) (fun h => ?_) | refine condK_split (fun h => ?_) (fun h => ?_) | refine pickV_split (fun h => ?_) (fun h => ?_)) <;> (try (simp (disch := first | exact dq | fail) only [go_sem] at h)) <;> (try (simp (disch := first | exact dq | fail) only [go_sem, h, hc, decide_true])))))
    all_goals (try omega)
    obtain ⟨Lf, hLf⟩ : ∃ Lf : Nat → List Int, Lf = fun j => pls l.length r ++ ups (r + 1) j := ⟨_, rfl⟩
    have hL0 : Lf 0 = pls l.length r := by rw [hLf]; simp [ups]
    have hLs : ∀ j, Lf (j + 1) = Lf j ++ [((r + 1 + 3 * j : Nat) : Int)] := fun j => by rw [hLf]; simp only [ups_succ, List.append_assoc]
    have hLe : Lf (cntU l.length (r + 1)) = pls l.length (r + 1) := by rw [hLf]; rfl
    have hLl : ∀ j, (Lf j).length = (pls l.length r).length + j := fun j => by rw [hLf]; simp [ups_len]
    have hcu : cntU l.length (r + 1) ≤ l.length + 3 := by unfold cntU; omega
    refine aw_loop (α := Nat) (fun j => ⟨24, sl [(0, .iv (inl l)), (2, .mp 0 0), (3, .msl 1 0 (Lf j).length (Lf j).length), (4, .iv (.int .i64 ((r + 1 : Nat) : Int))), (5, .iv (.int .i64 ((r + 1 + 3 * j : Nat) : Int)))], [.var 55 [.nilsl, .nilsl], .row true 3 1 ((Lf j).map (IV.int .i64))], 0⟩)
      (fun j => j ≤ cntU l.length (r + 1)) (fun j => cntU l.length (r + 1) - j) 0 (wk_by [0, 1] ?_) (by omega) ?_
    · (simp (disch := first | exact dq | fail) only [go_sem])
      simp [hL0]
    rintro j hj
    have hal : (Lf j).length ≤ 2000000 := by rw [hLl]; omega
    by_cases hjc : j < cntU l.length (r + 1)
    · have hc2 : ((r + 1 + 3 * j : Nat) : Int) ≤ l.length := by unfold cntU at hjc; omega
      have hsu := hLs j
      have hln : (Lf (j + 1)).length = (Lf j).length + 1 := by rw [hLl, hLl]; omega
      (repeat' (first
    | ((first | with_reducible (first | refine aw_seq ?_ | refine aw_region (aops_run ?_)) | (with_reducible refine aw_regionD (fun _ => .p) mixed ?_ (dops_run ?_); (· kernel_rfl)) | (with_reducible refine aw_regionD (fun _ => .r) mixed ?_ (dops_run ?_); (· kernel_rfl)) | with_reducible (first | refine aw_condK ?_ | refine aw_skip ?_ | refine aw_ret ?_ | refine aw_exit ?_ | refine aw_label ?_ | refine aw_block ?_ | refine aw_scope ?_ | refine And.intro ?_ ?_)) <;> (try (simp (disch := first | exact dq | fail) only [go_sem, hc2, decide_true])))
    | (with_reducible (first | refine wantK_split (fun h => ?_) (fun h => ?_) | refine condK_split (fun h => ?_) (fun h => ?_) | refine pickV_split (fun h => ?_) (fun h => ?_)) <;> (try (simp (disch := first | exact dq | fail) only [go_sem] at h)) <;> (try (simp (disch := first | exact dq | fail) only [go_sem, h, hc2, decide_true])))))
      all_goals (try omega)
      refine ⟨j + 1, by omega, wk_by [0, 1] ?_, by omega⟩
      (simp (disch := first | exact dq | fail) only [go_sem, hln])
      refine ⟨by rw [hsu]; simp, ?_⟩
      congr 2 <;> omega
    · have hc2 : ¬ (((r + 1 + 3 * j : Nat) : Int) ≤ l.length) := by unfold cntU at hj hjc; omega
      have hje : Lf j = pls l.length (r + 1) := by rw [← hLe, show j = cntU l.length (r + 1) from by omega]
      rw [hje]
      (repeat' (first
    | ((first | with_reducible (first | refine aw_seq ?_ | refine aw_region (aops_run ?_)) | (with_reducible refine aw_regionD (fun _ => .p) mixed ?_ (dops_run ?_); (· kernel_rfl)) | (with_reducible refine aw_regionD (fun _ => .r) mixed ?_ (dops_run ?_); (· kernel_rfl)) | with_reducible (first | refine aw_condK ?_ | refine aw_skip ?_ | refine aw_ret ?_ | refine aw_exit ?_ | refine aw_label ?_ | refine aw_block ?_ | refine aw_scope ?_ | refine And.intro ?_ ?_)) <;> (try (simp (disch := first | exact dq | fail) only [go_sem, hc2, decide_false])))
    | (with_reducible (first | refine wantK_split (fun h => ?_) (fun h => ?_) | refine condK_split (fun h => ?_) (fun h => ?_) | refine pickV_split (fun h => ?_) (fun h => ?_)) <;> (try (simp (disch := first | exact dq | fail) only [go_sem] at h)) <;> (try (simp (disch := first | exact dq | fail) only [go_sem, h, hc2, decide_false])))))
      all_goals (try omega)
      refine ⟨r + 1, by omega, wk_by [0, 1] ?_, by omega⟩
      (simp (disch := first | exact dq | fail) only [go_sem])
  · obtain rfl : r = 2 := by omega
    (repeat' (first
    | ((first | with_reducible (first | refine aw_seq ?_ | refine aw_region (aops_run ?_)) | (with_reducible refine aw_regionD (fun _ => .p) mixed ?_ (dops_run ?_); (· kernel_rfl)) | (with_reducible refine aw_regionD (fun _ => .r) mixed ?_ (dops_run ?_); (· kernel_rfl)) | with_reducible (first | refine aw_condK ?_ | refine aw_skip ?_ | refine aw_ret ?_ | refine aw_exit ?_ | refine aw_label ?_ | refine aw_block ?_ | refine aw_scope ?_ | refine And.intro ?_ ?_)) <;> (try (simp (disch := first | exact dq | fail) only [go_sem])))
    | (with_reducible (first | refine wantK_split (fun h => ?_) (fun h => ?_) | refine condK_split (fun h => ?_) (fun h => ?_) | refine pickV_split (fun h => ?_) (fun h => ?_)) <;> (try (simp (disch := first | exact dq | fail) only [go_sem] at h)) <;> (try (simp (disch := first | exact dq | fail) only [go_sem, h])))))
    all_goals (try omega)
    rfl
set_option maxHeartbeats 1000000 in
theorem triples_spec (row places : List Int) (hr : row.length ≤ 1000000) (hp : places.length ≤ 1000000) (hpos : ∀ p ∈ places, 0 ≤ p ∧ p ≤ 1000000) :
    PCalls Try.prog 50 [inl row, inl places] (inl (enc3 row places)) := by
  refine PCalls.of_aw Try.func50 rfl (by unfold Callable; kernel_rfl) (by kernel_rfl) (by simp [Try.ntmps50]) ?_; rw [Try.ntmps50, Try.results50]; (simp (maxSteps := 1000000) (disch := first | exact dq | fail) only [go_sem])
  (repeat' (first
    | ((first | with_reducible (first | refine aw_seq ?_ | refine aw_region (aops_run ?_)) | (with_reducible refine aw_regionD (fun _ => .p) mixed ?_ (dops_run ?_); (· kernel_rfl)) | (with_reducible refine aw_regionD (fun _ => .r) mixed ?_ (dops_run ?_); (· kernel_rfl)) | with_reducible (first | refine aw_condK ?_ | refine aw_skip ?_ | refine aw_ret ?_ | refine aw_exit ?_ | refine aw_label ?_ | refine aw_block ?_ | refine aw_scope ?_ | refine And.intro ?_ ?_)) <;> (try (simp (maxSteps := 1000000) (disch := first | exact dq | fail) only [go_sem])))
    | (with_reducible (first | refine wantK_split (fun h => ?_) (fun h => ?_) | refine condK_split (fun h => ?_) (fun h => ?_) | refine pickV_split (fun h => ?_) (fun h => ?_)) <;> (try (simp (maxSteps := 1000000) (disch := first | exact dq | fail) only [go_sem] at h)) <;> (try (simp (maxSteps := 1000000) (disch := first | exact dq | fail) only [go_sem, h])))))
  refine aw_loop (α := Nat) (fun i => ⟨54, sl [(0, .iv (inl row)), (5, .msl 1 0 i i), (6, .msl 2 0 i i), (7, .msl 3 0 i i), (14, .iv (inl places)), (15, .iv (.int .i64 places.length)), (16, .iv (.int .i64 i))], [.row true 3 1 [], .row true 3 1 (((places.take i).map (fun i => row.getD i.toNat 0)).map (IV.int .i64)), .row true 3 1 (((places.take i).map (fun i => row.getD (i.toNat + 1) 0)).map (IV.int .i64)), .row true 3 1 (((places.take i).map (fun i => row.getD (i.toNat + 2) 0)).map (IV.int .i64))], 0⟩)
    (fun i => i ≤ places.length) (fun i => places.length - i) 0 (wk_by [0, 1, 2, 3] ?_) (by omega) ?_
  · (simp (maxSteps := 1000000) (disch := first | exact dq | fail) only [go_sem])
  rintro i hi
  by_cases h : i < places.length
  · obtain ⟨p, hp0⟩ : ∃ p : Nat, places.getD i 0 = p := ⟨(places.getD i 0).toNat, by have := (hpos _ (getD_mem h)).1; omega⟩
    have hp1 : (p : Int) ≤ 1000000 := by have := (hpos _ (getD_mem h)).2; omega
    have hg : places[i]? = some (p : Int) := by rw [← hp0]; simp [List.getD, List.getElem?_eq_getElem h]
    have htk := take_snoc places h
    rw [hp0] at htk
    have a1 := at_spec row (p + 1) hr (by omega)
    have a2 := at_spec row (p + 2) hr (by omega)
    rw [show (((p + 1 : Nat)) : Int) = (p : Int) + 1 from by omega] at a1
    rw [show (((p + 2 : Nat)) : Int) = (p : Int) + 2 from by omega] at a2
    (repeat' (first
    | ((first | with_reducible (first | refine aw_seq ?_ | refine aw_region (aops_run ?_)) | (with_reducible refine aw_regionD (fun _ => .p) mixed ?_ (dops_run ?_); (· kernel_rfl)) | (with_reducible refine aw_regionD (fun _ => .r) mixed ?_ (dops_run ?_); (· kernel_rfl)) | with_reducible (first | refine aw_condK ?_ | refine aw_skip ?_ | refine aw_ret ?_ | refine aw_exit ?_ | refine aw_label ?_ | refine aw_block ?_ | refine aw_scope ?_ | refine And.intro ?_ ?_)) <;> (try (simp (maxSteps := 1000000) (disch := first | exact dq | fail) only [go_sem, hp0])))
    | (with_reducible (first | refine wantK_split (fun h => ?_) (fun h => ?_) | refine condK_split (fun h => ?_) (fun h => ?_) | refine pickV_split (fun h => ?_) (fun h => ?_)) <;> (try (simp (maxSteps := 1000000) (disch := first | exact dq | fail) only [go_sem] at h)) <;> (try (simp (maxSteps := 1000000) (disch := first | exact dq | fail) only [go_sem, h, hp0])))))
    all_goals (try omega)
    ((first | with_reducible apply left_callf | with_reducible apply leftD_callf | with_reducible apply leftF_callf); (· with_reducible rfl); (· (simp (maxSteps := 1000000) (disch := first | exact dq | fail) only [go_sem]) <;> rfl); (· exact at_spec row p hr (by omega)); try (simp (maxSteps := 1000000) (disch := first | exact dq | fail) only [go_sem]))
    (repeat' (first
    | ((first | with_reducible (first | refine aw_seq ?_ | refine aw_region (aops_run ?_)) | (with_reducible refine aw_regionD (fun _ => .p) mixed ?_ (dops_run ?_); (· kernel_rfl)) | (with_reducible refine aw_regionD (fun _ => .r) mixed ?_ (dops_run ?_); (· kernel_rfl)) | with_reducible (first | refine aw_condK ?_ | refine aw_skip ?_ | refine aw_ret ?_ | refine aw_exit ?_ | refine aw_label ?_ | refine aw_block ?_ | refine aw_scope ?_ | refine And.intro ?_ ?_)) <;> (try (simp (maxSteps := 1000000) (disch := first | exact dq | fail) only [go_sem, hp0])))
    | (with_reducible (first | refine wantK_split (fun h => ?_) (fun h => ?_) | refine condK_split (fun h => ?_) (fun h => ?_) | refine pickV_split (fun h => ?_) (fun h => ?_)) <;> (try (simp (maxSteps := 1000000) (disch := first | exact dq | fail) only [go_sem] at h)) <;> (try (simp (maxSteps := 1000000) (disch := first | exact dq | fail) only [go_sem, h, hp0])))))
    all_goals (try omega)
    ((first | with_reducible apply left_callf | with_reducible apply leftD_callf | with_reducible apply leftF_callf); (· with_reducible rfl); (· (simp (maxSteps := 1000000) (disch := first | exact dq | fail) only [go_sem]) <;> rfl); (· exact a1); try (simp (maxSteps := 1000000) (disch := first | exact dq | fail) only [go_sem]))
    (repeat' (first
    | ((first | with_reducible (first | refine aw_seq ?_ | refine aw_region (aops_run ?_)) | (with_reducible refine aw_regionD (fun _ => .p) mixed ?_ (dops_run ?_); (· kernel_rfl)) | (with_reducible refine aw_regionD (fun _ => .r) mixed ?_ (dops_run ?_); (· kernel_rfl)) | with_reducible (first | refine aw_condK ?_ | refine aw_skip ?_ | refine aw_ret ?_ | refine aw_exit ?_ | refine aw_label ?_ | refine aw_block ?_ | refine aw_scope ?_ | refine And.intro ?_ ?_)) <;> (try (simp (maxSteps := 1000000) (disch := first | exact dq | fail) only [go_sem, hp0])))
    | (with_reducible (first | refine wantK_split (fun h => ?_) (fun h => ?_) | refine condK_split (fun h => ?_) (fun h => ?_) | refine pickV_split (fun h => ?_) (fun h => ?_)) <;> (try (simp (maxSteps := 1000000) (disch := first | exact dq | fail) only [go_sem] at h)) <;> (try (simp (maxSteps := 1000000) (disch := first | exact dq | fail) only [go_sem, h, hp0])))))
    all_goals (try omega)
    ((first | with_reducible apply left_callf | with_reducible apply leftD_callf | with_reducible apply leftF_callf); (· with_reducible rfl); (· (simp (maxSteps := 1000000) (disch := first | exact dq | fail) only [go_sem]) <;> rfl); (· exact a2); try (simp (maxSteps := 1000000) (disch := first | exact dq | fail) only [go_sem]))
    (repeat' (first
    | ((first | with_reducible (first | refine aw_seq ?_ | refine aw_region (aops_run ?_)) | (with_reducible refine aw_regionD (fun _ => .p) mixed ?_ (dops_run ?_); (· kernel_rfl)) | (with_reducible refine aw_regionD (fun _ => .r) mixed ?_ (dops_run ?_); (· kernel_rfl)) | with_reducible (first | refine aw_condK ?_ | refine aw_skip ?_ | refine aw_ret ?_ | refine aw_exit ?_ | refine aw_label ?_ | refine aw_block ?_ | refine aw_scope ?_ | refine And.intro ?_ ?_)) <;> (try (simp (maxSteps := 1000000) (disch := first | exact dq | fail) only [go_sem, hp0])))
    | (with_reducible (first | refine wantK_split (fun h => ?_) (fun h => ?_) | refine condK_split (fun h => ?_) (fun h => ?_) | refine pickV_split (fun h => ?_) (fun h => ?_)) <;> (try (simp (maxSteps := 1000000) (disch := first | exact dq | fail) only [go_sem] at h)) <;> (try (simp (maxSteps := 1000000) (disch := first | exact dq | fail) only [go_sem, h, hp0])))))
    all_goals (try omega)
    refine ⟨i + 1, by omega, wk_by [0, 1, 2, 3] ?_, by omega⟩
    (simp (maxSteps := 1000000) (disch := first | exact dq | fail) only [go_sem])
    rw [htk]; simp
  · obtain rfl : i = places.length := by omega
    have e := @List.take_length _ places
    have q1 := Pairs_ok (places.map (fun i => row.getD (i.toNat + 1) 0)) (places.map (fun i => row.getD (i.toNat + 2) 0)) (by simp) (by simpa using hp)
    have q2 := Pairs_ok (places.map (fun i => row.getD i.toNat 0)) (pairL (places.map (fun i => row.getD (i.toNat + 1) 0)) (places.map (fun i => row.getD (i.toNat + 2) 0))) (by unfold pairL; rw [rankL_len, encL_len]; simp) (by simpa using hp)
    rw [e]
    (repeat' (first
    | ((first | with_reducible (first | refine aw_seq ?_ | refine aw_region (aops_run ?_)) | (with_reducible refine aw_regionD (fun _ => .p) mixed ?_ (dops_run ?_); (· kernel_rfl)) | (with_reducible refine aw_regionD (fun _ => .r) mixed ?_ (dops_run ?_); (· kernel_rfl)) | with_reducible (first | refine aw_condK ?_ | refine aw_skip ?_ | refine aw_ret ?_ | refine aw_exit ?_ | refine aw_label ?_ | refine aw_block ?_ | refine aw_scope ?_ | refine And.intro ?_ ?_)) <;> (try (simp (maxSteps := 1000000) (disch := first | exact dq | fail) only [go_sem])))
    | (with_reducible (first | refine wantK_split (fun h => ?_) (fun h => ?_) | refine condK_split (fun h => ?_) (fun h => ?_) | refine pickV_split (fun h => ?_) (fun h => ?_)) <;> (try (simp (maxSteps := 1000000) (disch := first | exact dq | fail) only [go_sem] at h)) <;> (try (simp (maxSteps := 1000000) (disch := first | exact dq | fail) only [go_sem, h])))))
    all_goals (try omega)
    ((with_reducible apply left_callfF); (· with_reducible rfl); (· (simp (maxSteps := 1000000) (disch := first | exact dq | fail) only [go_sem]) <;> rfl); (· exact q1); try (simp (maxSteps := 1000000) (disch := first | exact dq | fail) only [go_sem]))
    (repeat' (first
    | ((first | with_reducible (first | refine aw_seq ?_ | refine aw_region (aops_run ?_)) | (with_reducible refine aw_regionD (fun _ => .p) mixed ?_ (dops_run ?_); (· kernel_rfl)) | (with_reducible refine aw_regionD (fun _ => .r) mixed ?_ (dops_run ?_); (· kernel_rfl)) | with_reducible (first | refine aw_condK ?_ | refine aw_skip ?_ | refine aw_ret ?_ | refine aw_exit ?_ | refine aw_label ?_ | refine aw_block ?_ | refine aw_scope ?_ | refine And.intro ?_ ?_)) <;> (try (simp (maxSteps := 1000000) (disch := first | exact dq | fail) only [go_sem])))
    | (with_reducible (first | refine wantK_split (fun h => ?_) (fun h => ?_) | refine condK_split (fun h => ?_) (fun h => ?_) | refine pickV_split (fun h => ?_) (fun h => ?_)) <;> (try (simp (maxSteps := 1000000) (disch := first | exact dq | fail) only [go_sem] at h)) <;> (try (simp (maxSteps := 1000000) (disch := first | exact dq | fail) only [go_sem, h])))))
    all_goals (try omega)
    ((with_reducible apply left_callfF); (· with_reducible rfl); (· (simp (maxSteps := 1000000) (disch := first | exact dq | fail) only [go_sem]) <;> rfl); (· exact q2); try (simp (maxSteps := 1000000) (disch := first | exact dq | fail) only [go_sem]))
    (repeat' (first
    | ((first | with_reducible (first | refine aw_seq ?_ | refine aw_region (aops_run ?_)) | (with_reducible refine aw_regionD (fun _ => .p) mixed ?_ (dops_run ?_); (· kernel_rfl)) | (with_reducible refine aw_regionD (fun _ => .r) mixed ?_ (dops_run ?_); (· kernel_rfl)) | with_reducible (first | refine aw_condK ?_ | refine aw_skip ?_ | refine aw_ret ?_ | refine aw_exit ?_ | refine aw_label ?_ | refine aw_block ?_ | refine aw_scope ?_ | refine And.intro ?_ ?_)) <;> (try (simp (maxSteps := 1000000) (disch := first | exact dq | fail) only [go_sem])))
    | (with_reducible (first | refine wantK_split (fun h => ?_) (fun h => ?_) | refine condK_split (fun h => ?_) (fun h => ?_) | refine pickV_split (fun h => ?_) (fun h => ?_)) <;> (try (simp (maxSteps := 1000000) (disch := first | exact dq | fail) only [go_sem] at h)) <;> (try (simp (maxSteps := 1000000) (disch := first | exact dq | fail) only [go_sem, h])))))
    all_goals (try omega)
    rfl
def mxF (f : Nat → Int) : Nat → Int
  | 0 => f 0
  | i + 1 => max (mxF f i) (f (i + 1))
theorem Max_spec (l : List Int) (h0 : 0 < l.length) (hl : l.length ≤ 1000000) : PCalls Try.prog 51 [inl l] (.int .i64 (mxF (fun i => l.getD i 0) (l.length - 1))) := by
  have hc : ¬ ((l.length : Int) < 1) := by omega
  refine PCalls.of_aw Try.func51 rfl (by unfold Callable; kernel_rfl) (by kernel_rfl) (by simp [Try.ntmps51]) ?_; rw [Try.ntmps51, Try.results51]; (simp (disch := first | exact dq | fail) only [go_sem])
  (repeat' (first
    | ((first | with_reducible (first | refine aw_seq ?_ | refine aw_region (aops_run ?_)) | (with_reducible refine aw_regionD (fun _ => .p) mixed ?_ (dops_run ?_); (· kernel_rfl)) | (with_reducible refine aw_regionD (fun _ => .r) mixed ?_ (dops_run ?_); (· kernel_rfl)) | with_reducible (first | refine aw_condK ?_ | refine aw_skip ?_ | refine aw_ret ?_ | refine aw_exit ?_ | refine aw_label ?_ | refine aw_block ?_ | refine aw_scope ?_ | refine And.intro ?_ ?_)) <;> (try (simp (disch := first | exact dq | fail) only [go_sem, hc, decide_false])))
    | (with_reducible (first | refine wantK_split (fun h => ?_) (fun h => ?_) | refine condK_split (fun h => ?_) (fun h => ?_) | refine pickV_split (fun h => ?_) (fun h => ?_)) <;> (try (simp (disch := first | exact dq | fail) only [go_sem] at h)) <;> (try (simp (disch := first | exact dq | fail) only [go_sem, h, hc, decide_false])))))
  all_goals (try omega)
  refine aw_loop (α := Nat) (fun i => ⟨25, sl [(0, .iv (inl l)), (3, .iv (.int .i64 (mxF (fun i => l.getD i 0) i))), (4, .iv (.int .i64 ((i + 1 : Nat) : Int)))], [], 0⟩)
    (fun i => i < l.length) (fun i => l.length - i) 0 (wk_by [] ?_) h0 ?_
  · (simp (disch := first | exact dq | fail) only [go_sem])
    rfl
  rintro i hi
  by_cases h : i + 1 < l.length
  · have hc2 : ((i + 1 : Nat) : Int) < l.length := by omega
    (repeat' (first
    | ((first | with_reducible (first | refine aw_seq ?_ | refine aw_region (aops_run ?_)) | (with_reducible refine aw_regionD (fun _ => .p) mixed ?_ (dops_run ?_); (· kernel_rfl)) | (with_reducible refine aw_regionD (fun _ => .r) mixed ?_ (dops_run ?_); (· kernel_rfl)) | with_reducible (first | refine aw_condK ?_ | refine aw_skip ?_ | refine aw_ret ?_ | refine aw_exit ?_ | refine aw_label ?_ | refine aw_block ?_ | refine aw_scope ?_ | refine And.intro ?_ ?_)) <;> (try (simp (disch := first | exact dq | fail) only [go_sem, hc2, decide_true])))
    | (with_reducible (first | refine wantK_split (fun h => ?_) (fun h => ?_) | refine condK_split (fun h => ?_) (fun h => ?_) | refine pickV_split (fun h => ?_) (fun h => ?_)) <;> (try (simp (disch := first | exact dq | fail) only [go_sem] at h)) <;> (try (simp (disch := first | exact dq | fail) only [go_sem, h, hc2, decide_true])))))
    all_goals (try omega)
    refine ⟨i + 1, by omega, wk_by [] ?_, by omega⟩
    (simp (disch := first | exact dq | fail) only [go_sem])
    rw [show ((i : Int) + 1).toNat = i + 1 from by omega, mxF]
  · have hc2 : ¬ (((i + 1 : Nat) : Int) < l.length) := by omega
    (repeat' (first
    | ((first | with_reducible (first | refine aw_seq ?_ | refine aw_region (aops_run ?_)) | (with_reducible refine aw_regionD (fun _ => .p) mixed ?_ (dops_run ?_); (· kernel_rfl)) | (with_reducible refine aw_regionD (fun _ => .r) mixed ?_ (dops_run ?_); (· kernel_rfl)) | with_reducible (first | refine aw_condK ?_ | refine aw_skip ?_ | refine aw_ret ?_ | refine aw_exit ?_ | refine aw_label ?_ | refine aw_block ?_ | refine aw_scope ?_ | refine And.intro ?_ ?_)) <;> (try (simp (disch := first | exact dq | fail) only [go_sem, hc2, decide_false])))
    | (with_reducible (first | refine wantK_split (fun h => ?_) (fun h => ?_) | refine condK_split (fun h => ?_) (fun h => ?_) | refine pickV_split (fun h => ?_) (fun h => ?_)) <;> (try (simp (disch := first | exact dq | fail) only [go_sem] at h)) <;> (try (simp (disch := first | exact dq | fail) only [go_sem, h, hc2, decide_false])))))
    all_goals (try omega)
    rw [show i = l.length - 1 from by omega]
theorem cmp_spec (a b : Int) : PCalls Try.prog 66 [.int .i64 a, .int .i64 b] (.int .i64 (if a < b then -1 else if b < a then 1 else 0)) := by
  refine PCalls.of_aw Try.func66 rfl (by unfold Callable; kernel_rfl) (by kernel_rfl) (by simp [Try.ntmps66]) ?_; rw [Try.ntmps66, Try.results66]; (simp (disch := first | exact dq | fail) only [go_sem])
  (repeat' (first
    | ((first | with_reducible (first | refine aw_seq ?_ | refine aw_region (aops_run ?_)) | (with_reducible refine aw_regionD (fun _ => .p) mixed ?_ (dops_run ?_); (· kernel_rfl)) | (with_reducible refine aw_regionD (fun _ => .r) mixed ?_ (dops_run ?_); (· kernel_rfl)) | with_reducible (first | refine aw_condK ?_ | refine aw_skip ?_ | refine aw_ret ?_ | refine aw_exit ?_ | refine aw_label ?_ | refine aw_block ?_ | refine aw_scope ?_ | refine And.intro ?_ ?_)) <;> (try (simp (disch := first | exact dq | fail) only [go_sem])))
    | (with_reducible (first | refine wantK_split (fun h => ?_) (fun h => ?_) | refine condK_split (fun h => ?_) (fun h => ?_) | refine pickV_split (fun h => ?_) (fun h => ?_)) <;> (try (simp (disch := first | exact dq | fail) only [go_sem] at h)) <;> (try (simp (disch := first | exact dq | fail) only [go_sem, h])))))
  ((first | with_reducible apply left_callf | with_reducible apply leftD_callf | with_reducible apply leftF_callf); (· with_reducible rfl); (· (simp (disch := first | exact dq | fail) only [go_sem]) <;> rfl); (· exact isNaNc_spec a); try (simp (disch := first | exact dq | fail) only [go_sem]))
  (repeat' (first
    | ((first | with_reducible (first | refine aw_seq ?_ | refine aw_region (aops_run ?_)) | (with_reducible refine aw_regionD (fun _ => .p) mixed ?_ (dops_run ?_); (· kernel_rfl)) | (with_reducible refine aw_regionD (fun _ => .r) mixed ?_ (dops_run ?_); (· kernel_rfl)) | with_reducible (first | refine aw_condK ?_ | refine aw_skip ?_ | refine aw_ret ?_ | refine aw_exit ?_ | refine aw_label ?_ | refine aw_block ?_ | refine aw_scope ?_ | refine And.intro ?_ ?_)) <;> (try (simp (disch := first | exact dq | fail) only [go_sem])))
    | (with_reducible (first | refine wantK_split (fun h => ?_) (fun h => ?_) | refine condK_split (fun h => ?_) (fun h => ?_) | refine pickV_split (fun h => ?_) (fun h => ?_)) <;> (try (simp (disch := first | exact dq | fail) only [go_sem] at h)) <;> (try (simp (disch := first | exact dq | fail) only [go_sem, h])))))
  ((first | with_reducible apply left_callf | with_reducible apply leftD_callf | with_reducible apply leftF_callf); (· with_reducible rfl); (· (simp (disch := first | exact dq | fail) only [go_sem]) <;> rfl); (· exact isNaNc_spec b); try (simp (disch := first | exact dq | fail) only [go_sem]))
  (repeat' (first
    | ((first | with_reducible (first | refine aw_seq ?_ | refine aw_region (aops_run ?_)) | (with_reducible refine aw_regionD (fun _ => .p) mixed ?_ (dops_run ?_); (· kernel_rfl)) | (with_reducible refine aw_regionD (fun _ => .r) mixed ?_ (dops_run ?_); (· kernel_rfl)) | with_reducible (first | refine aw_condK ?_ | refine aw_skip ?_ | refine aw_ret ?_ | refine aw_exit ?_ | refine aw_label ?_ | refine aw_block ?_ | refine aw_scope ?_ | refine And.intro ?_ ?_)) <;> (try (simp (disch := first | exact dq | fail) only [go_sem])))
    | (with_reducible (first | refine wantK_split (fun h => ?_) (fun h => ?_) | refine condK_split (fun h => ?_) (fun h => ?_) | refine pickV_split (fun h => ?_) (fun h => ?_)) <;> (try (simp (disch := first | exact dq | fail) only [go_sem] at h)) <;> (try (simp (disch := first | exact dq | fail) only [go_sem, h])))))
  · rw [if_pos h]
  · rename_i h1; rw [if_neg h1, if_pos h]
  · rename_i h1; rw [if_neg h1, if_neg h]
set_option maxHeartbeats 1000000 in
theorem Compare_spec (a b : List Int) (ha : a.length ≤ 1000000) (hb : b.length ≤ 1000000) : PCalls Try.prog 45 [inl a, inl b] (.int .i64 (cmpL a b)) := by
  refine PCalls.of_aw Try.func45 rfl (by unfold Callable; kernel_rfl) (by kernel_rfl) (by simp [Try.ntmps45]) ?_; rw [Try.ntmps45, Try.results45]; (simp (maxSteps := 1000000) (disch := first | exact dq | fail) only [go_sem])
  (repeat' (first
    | ((first | with_reducible (first | refine aw_seq ?_ | refine aw_region (aops_run ?_)) | (with_reducible refine aw_regionD (fun _ => .p) mixed ?_ (dops_run ?_); (· kernel_rfl)) | (with_reducible refine aw_regionD (fun _ => .r) mixed ?_ (dops_run ?_); (· kernel_rfl)) | with_reducible (first | refine aw_condK ?_ | refine aw_skip ?_ | refine aw_ret ?_ | refine aw_exit ?_ | refine aw_label ?_ | refine aw_block ?_ | refine aw_scope ?_ | refine And.intro ?_ ?_)) <;> (try (simp (maxSteps := 1000000) (disch := first | exact dq | fail) only [go_sem])))
    | (with_reducible (first | refine wantK_split (fun h => ?_) (fun h => ?_) | refine condK_split (fun h => ?_) (fun h => ?_) | refine pickV_split (fun h => ?_) (fun h => ?_)) <;> (try (simp (maxSteps := 1000000) (disch := first | exact dq | fail) only [go_sem] at h)) <;> (try (simp (maxSteps := 1000000) (disch := first | exact dq | fail) only [go_sem, h])))))
  refine aw_loop (α := Nat) (fun i => ⟨36, sl [(0, .iv (inl a)), (1, .iv (inl b)), (9, .iv (inl a)), (10, .iv (.int .i64 a.length)), (11, .iv (.int .i64 i))], [], 0⟩)
    (fun i => i ≤ a.length ∧ i ≤ b.length ∧ cmpL (a.drop i) (b.drop i) = cmpL a b) (fun i => a.length - i) 0 (wk_by [] ?_) ⟨by omega, by omega, rfl⟩ ?_
  · (simp (maxSteps := 1000000) (disch := first | exact dq | fail) only [go_sem])
  rintro i ⟨hi, hib, he⟩
  rw [← he]
  by_cases h : i < a.length
  · have da := List.drop_eq_getElem_cons h
    have ga : a.getD i 0 = a[i] := by simp [List.getD, List.getElem?_eq_getElem h]
    by_cases h2 : i < b.length
    · have db := List.drop_eq_getElem_cons h2
      have gb : b.getD i 0 = b[i] := by simp [List.getD, List.getElem?_eq_getElem h2]
      have hc := cmp_spec a[i] b[i]
      have hc1 : ¬ ((b.length : Int) ≤ i) := by omega
      (repeat' (first
    | ((first | with_reducible (first | refine aw_seq ?_ | refine aw_region (aops_run ?_)) | (with_reducible refine aw_regionD (fun _ => .p) mixed ?_ (dops_run ?_); (· kernel_rfl)) | (with_reducible refine aw_regionD (fun _ => .r) mixed ?_ (dops_run ?_); (· kernel_rfl)) | with_reducible (first | refine aw_condK ?_ | refine aw_skip ?_ | refine aw_ret ?_ | refine aw_exit ?_ | refine aw_label ?_ | refine aw_block ?_ | refine aw_scope ?_ | refine And.intro ?_ ?_)) <;> (try (simp (maxSteps := 1000000) (disch := first | exact dq | fail) only [go_sem, ga, gb, hc1, decide_false])))
    | (with_reducible (first | refine wantK_split (fun h => ?_) (fun h => ?_) | refine condK_split (fun h => ?_) (fun h => ?_) | refine pickV_split (fun h => ?_) (fun h => ?_)) <;> (try (simp (maxSteps := 1000000) (disch := first | exact dq | fail) only [go_sem] at h)) <;> (try (simp (maxSteps := 1000000) (disch := first | exact dq | fail) only [go_sem, h, ga, gb, hc1, decide_false])))))
      all_goals (try omega)
      ((first | with_reducible apply left_callf | with_reducible apply leftD_callf | with_reducible apply leftF_callf); (· with_reducible rfl); (· (simp (maxSteps := 1000000) (disch := first | exact dq | fail) only [go_sem]) <;> rfl); (· exact hc); try (simp (maxSteps := 1000000) (disch := first | exact dq | fail) only [go_sem]))
      by_cases g1 : a[i] < b[i]
      · rw [if_pos g1]
        (repeat' (first
    | ((first | with_reducible (first | refine aw_seq ?_ | refine aw_region (aops_run ?_)) | (with_reducible refine aw_regionD (fun _ => .p) mixed ?_ (dops_run ?_); (· kernel_rfl)) | (with_reducible refine aw_regionD (fun _ => .r) mixed ?_ (dops_run ?_); (· kernel_rfl)) | with_reducible (first | refine aw_condK ?_ | refine aw_skip ?_ | refine aw_ret ?_ | refine aw_exit ?_ | refine aw_label ?_ | refine aw_block ?_ | refine aw_scope ?_ | refine And.intro ?_ ?_)) <;> (try (simp (maxSteps := 1000000) (disch := first | exact dq | fail) only [go_sem, ga, gb, hc1, decide_false, decide_true])))
    | (with_reducible (first | refine wantK_split (fun h => ?_) (fun h => ?_) | refine condK_split (fun h => ?_) (fun h => ?_) | refine pickV_split (fun h => ?_) (fun h => ?_)) <;> (try (simp (maxSteps := 1000000) (disch := first | exact dq | fail) only [go_sem] at h)) <;> (try (simp (maxSteps := 1000000) (disch := first | exact dq | fail) only [go_sem, h, ga, gb, hc1, decide_false, decide_true])))))
        all_goals (try omega)
        rw [da, db, cmpL, if_pos g1]
      · by_cases g2 : b[i] < a[i]
        · rw [if_neg g1, if_pos g2]
          (repeat' (first
    | ((first | with_reducible (first | refine aw_seq ?_ | refine aw_region (aops_run ?_)) | (with_reducible refine aw_regionD (fun _ => .p) mixed ?_ (dops_run ?_); (· kernel_rfl)) | (with_reducible refine aw_regionD (fun _ => .r) mixed ?_ (dops_run ?_); (· kernel_rfl)) | with_reducible (first | refine aw_condK ?_ | refine aw_skip ?_ | refine aw_ret ?_ | refine aw_exit ?_ | refine aw_label ?_ | refine aw_block ?_ | refine aw_scope ?_ | refine And.intro ?_ ?_)) <;> (try (simp (maxSteps := 1000000) (disch := first | exact dq | fail) only [go_sem, ga, gb, hc1, decide_false, decide_true])))
    | (with_reducible (first | refine wantK_split (fun h => ?_) (fun h => ?_) | refine condK_split (fun h => ?_) (fun h => ?_) | refine pickV_split (fun h => ?_) (fun h => ?_)) <;> (try (simp (maxSteps := 1000000) (disch := first | exact dq | fail) only [go_sem] at h)) <;> (try (simp (maxSteps := 1000000) (disch := first | exact dq | fail) only [go_sem, h, ga, gb, hc1, decide_false, decide_true])))))
          all_goals (try omega)
          rw [da, db, cmpL, if_neg g1, if_pos g2]
        · rw [if_neg g1, if_neg g2]
          (repeat' (first
    | ((first | with_reducible (first | refine aw_seq ?_ | refine aw_region (aops_run ?_)) | (with_reducible refine aw_regionD (fun _ => .p) mixed ?_ (dops_run ?_); (· kernel_rfl)) | (with_reducible refine aw_regionD (fun _ => .r) mixed ?_ (dops_run ?_); (· kernel_rfl)) | with_reducible (first | refine aw_condK ?_ | refine aw_skip ?_ | refine aw_ret ?_ | refine aw_exit ?_ | refine aw_label ?_ | refine aw_block ?_ | refine aw_scope ?_ | refine And.intro ?_ ?_)) <;> (try (simp (maxSteps := 1000000) (disch := first | exact dq | fail) only [go_sem, ga, gb, hc1, decide_false, decide_true])))
    | (with_reducible (first | refine wantK_split (fun h => ?_) (fun h => ?_) | refine condK_split (fun h => ?_) (fun h => ?_) | refine pickV_split (fun h => ?_) (fun h => ?_)) <;> (try (simp (maxSteps := 1000000) (disch := first | exact dq | fail) only [go_sem] at h)) <;> (try (simp (maxSteps := 1000000) (disch := first | exact dq | fail) only [go_sem, h, ga, gb, hc1, decide_false, decide_true])))))
          all_goals (try omega)
          refine ⟨i + 1, ⟨by omega, by omega, ?_⟩, wk_by [] ?_, by omega⟩
          · rw [da, db, cmpL, if_neg g1, if_neg g2]
          · (simp (maxSteps := 1000000) (disch := first | exact dq | fail) only [go_sem])
    · have hc1 : ((b.length : Int) ≤ i) := by omega
      (repeat' (first
    | ((first | with_reducible (first | refine aw_seq ?_ | refine aw_region (aops_run ?_)) | (with_reducible refine aw_regionD (fun _ => .p) mixed ?_ (dops_run ?_); (· kernel_rfl)) | (with_reducible refine aw_regionD (fun _ => .r) mixed ?_ (dops_run ?_); (· kernel_rfl)) | with_reducible (first | refine aw_condK ?_ | refine aw_skip ?_ | refine aw_ret ?_ | refine aw_exit ?_ | refine aw_label ?_ | refine aw_block ?_ | refine aw_scope ?_ | refine And.intro ?_ ?_)) <;> (try (simp (maxSteps := 1000000) (disch := first | exact dq | fail) only [go_sem, ga, hc1, decide_true])))
    | (with_reducible (first | refine wantK_split (fun h => ?_) (fun h => ?_) | refine condK_split (fun h => ?_) (fun h => ?_) | refine pickV_split (fun h => ?_) (fun h => ?_)) <;> (try (simp (maxSteps := 1000000) (disch := first | exact dq | fail) only [go_sem] at h)) <;> (try (simp (maxSteps := 1000000) (disch := first | exact dq | fail) only [go_sem, h, ga, hc1, decide_true])))))
      all_goals (try omega)
      rw [da, List.drop_of_length_le (show b.length ≤ i by omega)]; rfl
  · have hda : a.drop i = [] := List.drop_of_length_le (by omega)
    by_cases h2 : i < b.length
    · have db := List.drop_eq_getElem_cons h2
      have hc1 : ((a.length : Int) < b.length) := by omega
      (repeat' (first
    | ((first | with_reducible (first | refine aw_seq ?_ | refine aw_region (aops_run ?_)) | (with_reducible refine aw_regionD (fun _ => .p) mixed ?_ (dops_run ?_); (· kernel_rfl)) | (with_reducible refine aw_regionD (fun _ => .r) mixed ?_ (dops_run ?_); (· kernel_rfl)) | with_reducible (first | refine aw_condK ?_ | refine aw_skip ?_ | refine aw_ret ?_ | refine aw_exit ?_ | refine aw_label ?_ | refine aw_block ?_ | refine aw_scope ?_ | refine And.intro ?_ ?_)) <;> (try (simp (maxSteps := 1000000) (disch := first | exact dq | fail) only [go_sem, hc1, decide_true])))
    | (with_reducible (first | refine wantK_split (fun h => ?_) (fun h => ?_) | refine condK_split (fun h => ?_) (fun h => ?_) | refine pickV_split (fun h => ?_) (fun h => ?_)) <;> (try (simp (maxSteps := 1000000) (disch := first | exact dq | fail) only [go_sem] at h)) <;> (try (simp (maxSteps := 1000000) (disch := first | exact dq | fail) only [go_sem, h, hc1, decide_true])))))
      all_goals (try omega)
      rw [hda, db]; rfl
    · have hc1 : ¬ ((a.length : Int) < b.length) := by omega
      (repeat' (first
    | ((first | with_reducible (first | refine aw_seq ?_ | refine aw_region (aops_run ?_)) | (with_reducible refine aw_regionD (fun _ => .p) mixed ?_ (dops_run ?_); (· kernel_rfl)) | (with_reducible refine aw_regionD (fun _ => .r) mixed ?_ (dops_run ?_); (· kernel_rfl)) | with_reducible (first | refine aw_condK ?_ | refine aw_skip ?_ | refine aw_ret ?_ | refine aw_exit ?_ | refine aw_label ?_ | refine aw_block ?_ | refine aw_scope ?_ | refine And.intro ?_ ?_)) <;> (try (simp (maxSteps := 1000000) (disch := first | exact dq | fail) only [go_sem, hc1, decide_false])))
    | (with_reducible (first | refine wantK_split (fun h => ?_) (fun h => ?_) | refine condK_split (fun h => ?_) (fun h => ?_) | refine pickV_split (fun h => ?_) (fun h => ?_)) <;> (try (simp (maxSteps := 1000000) (disch := first | exact dq | fail) only [go_sem] at h)) <;> (try (simp (maxSteps := 1000000) (disch := first | exact dq | fail) only [go_sem, h, hc1, decide_false])))))
      all_goals (try omega)
      rw [hda, List.drop_of_length_le (show b.length ≤ i by omega)]; rfl
end Go.Proofs.Ytejhomoafhnipaa.AM

set_option linter.unusedVariables false
set_option linter.unusedSimpArgs false
set_option maxRecDepth 20000
namespace Go.Proofs.Ytejhomoafhnipaa.AM
open Go Go.RowKit

def endM (row places : List Int) (N : Nat) (g : Nat → Int) : List MO := [.var 55 [.iv (inl row), .iv (inl places)], .var 22 [.msl 2 0 N N], .row true 3 1 (rowF N g)]
set_option maxHeartbeats 4000000 in
theorem lessf_spec (row places : List Int) (N : Nat) (g : Nat → Int) (s t : Nat) (hr : row.length ≤ 1000000) (hN : N ≤ 1000003) (hs : s + 2 < N) (ht : t + 2 < N) :
    MCalls Try.prog 71 [.iv (.int .i64 s), .iv (.int .i64 t), .mp 0 0, .mp 1 0] (endM row places N g) (.iv (.bool (lessB row g s t))) (endM row places N g) := by
  have hgl := rowF_len N g
  have a0 := at_spec row s hr (by omega)
  have b0 := at_spec row t hr (by omega)
  have a1 := at_spec row (s + 1) hr (by omega)
  have b1 := at_spec row (t + 1) hr (by omega)
  rw [show (((s + 1 : Nat)) : Int) = (s : Int) + 1 from by omega] at a1
  rw [show (((t + 1 : Nat)) : Int) = (t : Int) + 1 from by omega] at b1
  have gs1 := rowF_get (n := N) g (show s + 1 < N by omega)
  have gs2 := rowF_get (n := N) g (show s + 2 < N by omega)
  have gt1 := rowF_get (n := N) g (show t + 1 < N by omega)
  have gt2 := rowF_get (n := N) g (show t + 2 < N by omega)
  have is1 : ((s : Int) + 1).toNat = s + 1 := by omega
  have is2 : ((s : Int) + 2).toNat = s + 2 := by omega
  have it1 : ((t : Int) + 1).toNat = t + 1 := by omega
  have it2 : ((t : Int) + 2).toNat = t + 2 := by omega
  by_cases h : t % 3 = 1
  · have hc : (t : Int) % 3 = 1 := by omega
    have hq := Compare_spec [row.getD s 0, g (s + 1)] [row.getD t 0, g (t + 1)] (by simp) (by simp)
    unfold lessB
    rw [if_pos h]
    refine MCalls.of_aw Try.func71 rfl (by unfold Callable; kernel_rfl) (by kernel_rfl) (by simp [Try.ntmps71]) (by (simp (maxSteps := 1000000) (disch := first | exact dq | fail) only [go_sem, endM])) ?_; rw [Try.ntmps71, Try.results71]; (simp (maxSteps := 1000000) (disch := first | exact dq | fail) only [go_sem, endM])
    (repeat' (first
    | ((first | with_reducible (first | refine aw_seq ?_ | refine aw_region (aops_run ?_)) | (with_reducible refine aw_regionD cwF mixed ?_ (dops_runF ?_); (· kernel_rfl)) | with_reducible (first | refine aw_condK ?_ | refine aw_skip ?_ | refine aw_ret ?_ | refine aw_exit ?_ | refine aw_label ?_ | refine aw_block ?_ | refine aw_scope ?_ | refine And.intro ?_ ?_)) <;> (try (simp (maxSteps := 1000000) (disch := first | exact dq | fail) only [go_sem, hc, hgl, gs1, gs2, gt1, gt2, is1, is2, it1, it2, decide_true])))
    | (with_reducible (first | refine wantK_split (fun h => ?_) (fun h => ?_) | refine condK_split (fun h => ?_) (fun h => ?_) | refine pickV_split (fun h => ?_) (fun h => ?_)) <;> (try (simp (maxSteps := 1000000) (disch := first | exact dq | fail) only [go_sem] at h)) <;> (try (simp (maxSteps := 1000000) (disch := first | exact dq | fail) only [go_sem, h, hc, hgl, gs1, gs2, gt1, gt2, is1, is2, it1, it2, decide_true])))))
    all_goals (try omega)
    ((first | with_reducible apply left_callf | with_reducible apply leftD_callf | with_reducible apply leftF_callf); (· with_reducible rfl); (· (simp (maxSteps := 1000000) (disch := first | exact dq | fail) only [go_sem]) <;> rfl); (· exact a0); try (simp (maxSteps := 1000000) (disch := first | exact dq | fail) only [go_sem]))
    (repeat' (first
    | ((first | with_reducible (first | refine aw_seq ?_ | refine aw_region (aops_run ?_)) | (with_reducible refine aw_regionD cwF mixed ?_ (dops_runF ?_); (· kernel_rfl)) | with_reducible (first | refine aw_condK ?_ | refine aw_skip ?_ | refine aw_ret ?_ | refine aw_exit ?_ | refine aw_label ?_ | refine aw_block ?_ | refine aw_scope ?_ | refine And.intro ?_ ?_)) <;> (try (simp (maxSteps := 1000000) (disch := first | exact dq | fail) only [go_sem, hc, hgl, gs1, gs2, gt1, gt2, is1, is2, it1, it2, decide_true, decide_false])))
    | (with_reducible (first | refine wantK_split (fun h => ?_) (fun h => ?_) | refine condK_split (fun h => ?_) (fun h => ?_) | refine pickV_split (fun h => ?_) (fun h => ?_)) <;> (try (simp (maxSteps := 1000000) (disch := first | exact dq | fail) only [go_sem] at h)) <;> (try (simp (maxSteps := 1000000) (disch := first | exact dq | fail) only [go_sem, h, hc, hgl, gs1, gs2, gt1, gt2, is1, is2, it1, it2, decide_true, decide_false])))))
    all_goals (try omega)
    ((first | with_reducible apply left_callf | with_reducible apply leftD_callf | with_reducible apply leftF_callf); (· with_reducible rfl); (· (simp (maxSteps := 1000000) (disch := first | exact dq | fail) only [go_sem]) <;> rfl); (· exact b0); try (simp (maxSteps := 1000000) (disch := first | exact dq | fail) only [go_sem]))
    (repeat' (first
    | ((first | with_reducible (first | refine aw_seq ?_ | refine aw_region (aops_run ?_)) | (with_reducible refine aw_regionD cwF mixed ?_ (dops_runF ?_); (· kernel_rfl)) | with_reducible (first | refine aw_condK ?_ | refine aw_skip ?_ | refine aw_ret ?_ | refine aw_exit ?_ | refine aw_label ?_ | refine aw_block ?_ | refine aw_scope ?_ | refine And.intro ?_ ?_)) <;> (try (simp (maxSteps := 1000000) (disch := first | exact dq | fail) only [go_sem, hc, hgl, gs1, gs2, gt1, gt2, is1, is2, it1, it2, decide_true, decide_false])))
    | (with_reducible (first | refine wantK_split (fun h => ?_) (fun h => ?_) | refine condK_split (fun h => ?_) (fun h => ?_) | refine pickV_split (fun h => ?_) (fun h => ?_)) <;> (try (simp (maxSteps := 1000000) (disch := first | exact dq | fail) only [go_sem] at h)) <;> (try (simp (maxSteps := 1000000) (disch := first | exact dq | fail) only [go_sem, h, hc, hgl, gs1, gs2, gt1, gt2, is1, is2, it1, it2, decide_true, decide_false])))))
    all_goals (try omega)
    ((first | with_reducible apply left_callf | with_reducible apply leftD_callf | with_reducible apply leftF_callf); (· with_reducible rfl); (· (simp (maxSteps := 1000000) (disch := first | exact dq | fail) only [go_sem]) <;> rfl); (· exact hq); try (simp (maxSteps := 1000000) (disch := first | exact dq | fail) only [go_sem]))
    (repeat' (first
    | ((first | with_reducible (first | refine aw_seq ?_ | refine aw_region (aops_run ?_)) | (with_reducible refine aw_regionD cwF mixed ?_ (dops_runF ?_); (· kernel_rfl)) | with_reducible (first | refine aw_condK ?_ | refine aw_skip ?_ | refine aw_ret ?_ | refine aw_exit ?_ | refine aw_label ?_ | refine aw_block ?_ | refine aw_scope ?_ | refine And.intro ?_ ?_)) <;> (try (simp (maxSteps := 1000000) (disch := first | exact dq | fail) only [go_sem, hc, hgl, gs1, gs2, gt1, gt2, is1, is2, it1, it2, decide_true, decide_false])))
    | (with_reducible (first | refine wantK_split (fun h => ?_) (fun h => ?_) | refine condK_split (fun h => ?_) (fun h => ?_) | refine pickV_split (fun h => ?_) (fun h => ?_)) <;> (try (simp (maxSteps := 1000000) (disch := first | exact dq | fail) only [go_sem] at h)) <;> (try (simp (maxSteps := 1000000) (disch := first | exact dq | fail) only [go_sem, h, hc, hgl, gs1, gs2, gt1, gt2, is1, is2, it1, it2, decide_true, decide_false])))))
    all_goals (try omega)
    all_goals (refine fin_k [0, 1, 2] ?_; (simp (maxSteps := 1000000) (disch := first | exact dq | fail) only [go_sem]))
  · have hc : ¬ ((t : Int) % 3 = 1) := by omega
    have hq := Compare_spec [row.getD s 0, row.getD (s + 1) 0, g (s + 2)] [row.getD t 0, row.getD (t + 1) 0, g (t + 2)] (by simp) (by simp)
    unfold lessB
    rw [if_neg h]
    refine MCalls.of_aw Try.func71 rfl (by unfold Callable; kernel_rfl) (by kernel_rfl) (by simp [Try.ntmps71]) (by (simp (maxSteps := 1000000) (disch := first | exact dq | fail) only [go_sem, endM])) ?_; rw [Try.ntmps71, Try.results71]; (simp (maxSteps := 1000000) (disch := first | exact dq | fail) only [go_sem, endM])
    (repeat' (first
    | ((first | with_reducible (first | refine aw_seq ?_ | refine aw_region (aops_run ?_)) | (with_reducible refine aw_regionD cwF mixed ?_ (dops_runF ?_); (· kernel_rfl)) | with_reducible (first | refine aw_condK ?_ | refine aw_skip ?_ | refine aw_ret ?_ | refine aw_exit ?_ | refine aw_label ?_ | refine aw_block ?_ | refine aw_scope ?_ | refine And.intro ?_ ?_)) <;> (try (simp (maxSteps := 1000000) (disch := first | exact dq | fail) only [go_sem, hc, hgl, gs1, gs2, gt1, gt2, is1, is2, it1, it2, decide_false])))
    | (with_reducible (first | refine wantK_split (fun h => ?_) (fun h => ?_) | refine condK_split (fun h => ?_) (fun h => ?_) | refine pickV_split (fun h => ?_) (fun h => ?_)) <;> (try (simp (maxSteps := 1000000) (disch := first | exact dq | fail) only [go_sem] at h)) <;> (try (simp (maxSteps := 1000000) (disch := first | exact dq | fail) only [go_sem, h, hc, hgl, gs1, gs2, gt1, gt2, is1, is2, it1, it2, decide_false])))))
    all_goals (try omega)
    ((first | with_reducible apply left_callf | with_reducible apply leftD_callf | with_reducible apply leftF_callf); (· with_reducible rfl); (· (simp (maxSteps := 1000000) (disch := first | exact dq | fail) only [go_sem]) <;> rfl); (· exact a0); try (simp (maxSteps := 1000000) (disch := first | exact dq | fail) only [go_sem]))
    (repeat' (first
    | ((first | with_reducible (first | refine aw_seq ?_ | refine aw_region (aops_run ?_)) | (with_reducible refine aw_regionD cwF mixed ?_ (dops_runF ?_); (· kernel_rfl)) | with_reducible (first | refine aw_condK ?_ | refine aw_skip ?_ | refine aw_ret ?_ | refine aw_exit ?_ | refine aw_label ?_ | refine aw_block ?_ | refine aw_scope ?_ | refine And.intro ?_ ?_)) <;> (try (simp (maxSteps := 1000000) (disch := first | exact dq | fail) only [go_sem, hc, hgl, gs1, gs2, gt1, gt2, is1, is2, it1, it2, decide_true, decide_false])))
    | (with_reducible (first | refine wantK_split (fun h => ?_) (fun h => ?_) | refine condK_split (fun h => ?_) (fun h => ?_) | refine pickV_split (fun h => ?_) (fun h => ?_)) <;> (try (simp (maxSteps := 1000000) (disch := first | exact dq | fail) only [go_sem] at h)) <;> (try (simp (maxSteps := 1000000) (disch := first | exact dq | fail) only [go_sem, h, hc, hgl, gs1, gs2, gt1, gt2, is1, is2, it1, it2, decide_true, decide_false])))))
    all_goals (try omega)
    ((first | with_reducible apply left_callf | with_reducible apply leftD_callf | with_reducible apply leftF_callf); (· with_reducible rfl); (· (simp (maxSteps := 1000000) (disch := first | exact dq | fail) only [go_sem]) <;> rfl); (· exact a1); try (simp (maxSteps := 1000000) (disch := first | exact dq | fail) only [go_sem]))
    (repeat' (first
    | ((first | with_reducible (first | refine aw_seq ?_ | refine aw_region (aops_run ?_)) | (with_reducible refine aw_regionD cwF mixed ?_ (dops_runF ?_); (· kernel_rfl)) | with_reducible (first | refine aw_condK ?_ | refine aw_skip ?_ | refine aw_ret ?_ | refine aw_exit ?_ | refine aw_label ?_ | refine aw_block ?_ | refine aw_scope ?_ | refine And.intro ?_ ?_)) <;> (try (simp (maxSteps := 1000000) (disch := first | exact dq | fail) only [go_sem, hc, hgl, gs1, gs2, gt1, gt2, is1, is2, it1, it2, decide_true, decide_false])))
    | (with_reducible (first | refine wantK_split (fun h => ?_) (fun h => ?_) | refine condK_split (fun h => ?_) (fun h => ?_) | refine pickV_split (fun h => ?_) (fun h => ?_)) <;> (try (simp (maxSteps := 1000000) (disch := first | exact dq | fail) only [go_sem] at h)) <;> (try (simp (maxSteps := 1000000) (disch := first | exact dq | fail) only [go_sem, h, hc, hgl, gs1, gs2, gt1, gt2, is1, is2, it1, it2, decide_true, decide_false])))))
    all_goals (try omega)
    ((first | with_reducible apply left_callf | with_reducible apply leftD_callf | with_reducible apply leftF_callf); (· with_reducible rfl); (· (simp (maxSteps := 1000000) (disch := first | exact dq | fail) only [go_sem]) <;> rfl); (· exact b0); try (simp (maxSteps := 1000000) (disch := first | exact dq | fail) only [go_sem]))
    (repeat' (first
    | ((first | with_reducible (first | refine aw_seq ?_ | refine aw_region (aops_run ?_)) | (with_reducible refine aw_regionD cwF mixed ?_ (dops_runF ?_); (· kernel_rfl)) | with_reducible (first | refine aw_condK ?_ | refine aw_skip ?_ | refine aw_ret ?_ | refine aw_exit ?_ | refine aw_label ?_ | refine aw_block ?_ | refine aw_scope ?_ | refine And.intro ?_ ?_)) <;> (try (simp (maxSteps := 1000000) (disch := first | exact dq | fail) only [go_sem, hc, hgl, gs1, gs2, gt1, gt2, is1, is2, it1, it2, decide_true, decide_false])))
    | (with_reducible (first | refine wantK_split (fun h => ?_) (fun h => ?_) | refine condK_split (fun h => ?_) (fun h => ?_) | refine pickV_split (fun h => ?_) (fun h => ?_)) <;> (try (simp (maxSteps := 1000000) (disch := first | exact dq | fail) only [go_sem] at h)) <;> (try (simp (maxSteps := 1000000) (disch := first | exact dq | fail) only [go_sem, h, hc, hgl, gs1, gs2, gt1, gt2, is1, is2, it1, it2, decide_true, decide_false])))))
    all_goals (try omega)
    ((first | with_reducible apply left_callf | with_reducible apply leftD_callf | with_reducible apply leftF_callf); (· with_reducible rfl); (· (simp (maxSteps := 1000000) (disch := first | exact dq | fail) only [go_sem]) <;> rfl); (· exact b1); try (simp (maxSteps := 1000000) (disch := first | exact dq | fail) only [go_sem]))
    (repeat' (first
    | ((first | with_reducible (first | refine aw_seq ?_ | refine aw_region (aops_run ?_)) | (with_reducible refine aw_regionD cwF mixed ?_ (dops_runF ?_); (· kernel_rfl)) | with_reducible (first | refine aw_condK ?_ | refine aw_skip ?_ | refine aw_ret ?_ | refine aw_exit ?_ | refine aw_label ?_ | refine aw_block ?_ | refine aw_scope ?_ | refine And.intro ?_ ?_)) <;> (try (simp (maxSteps := 1000000) (disch := first | exact dq | fail) only [go_sem, hc, hgl, gs1, gs2, gt1, gt2, is1, is2, it1, it2, decide_true, decide_false])))
    | (with_reducible (first | refine wantK_split (fun h => ?_) (fun h => ?_) | refine condK_split (fun h => ?_) (fun h => ?_) | refine pickV_split (fun h => ?_) (fun h => ?_)) <;> (try (simp (maxSteps := 1000000) (disch := first | exact dq | fail) only [go_sem] at h)) <;> (try (simp (maxSteps := 1000000) (disch := first | exact dq | fail) only [go_sem, h, hc, hgl, gs1, gs2, gt1, gt2, is1, is2, it1, it2, decide_true, decide_false])))))
    all_goals (try omega)
    ((first | with_reducible apply left_callf | with_reducible apply leftD_callf | with_reducible apply leftF_callf); (· with_reducible rfl); (· (simp (maxSteps := 1000000) (disch := first | exact dq | fail) only [go_sem]) <;> rfl); (· exact hq); try (simp (maxSteps := 1000000) (disch := first | exact dq | fail) only [go_sem]))
    (repeat' (first
    | ((first | with_reducible (first | refine aw_seq ?_ | refine aw_region (aops_run ?_)) | (with_reducible refine aw_regionD cwF mixed ?_ (dops_runF ?_); (· kernel_rfl)) | with_reducible (first | refine aw_condK ?_ | refine aw_skip ?_ | refine aw_ret ?_ | refine aw_exit ?_ | refine aw_label ?_ | refine aw_block ?_ | refine aw_scope ?_ | refine And.intro ?_ ?_)) <;> (try (simp (maxSteps := 1000000) (disch := first | exact dq | fail) only [go_sem, hc, hgl, gs1, gs2, gt1, gt2, is1, is2, it1, it2, decide_true, decide_false])))
    | (with_reducible (first | refine wantK_split (fun h => ?_) (fun h => ?_) | refine condK_split (fun h => ?_) (fun h => ?_) | refine pickV_split (fun h => ?_) (fun h => ?_)) <;> (try (simp (maxSteps := 1000000) (disch := first | exact dq | fail) only [go_sem] at h)) <;> (try (simp (maxSteps := 1000000) (disch := first | exact dq | fail) only [go_sem, h, hc, hgl, gs1, gs2, gt1, gt2, is1, is2, it1, it2, decide_true, decide_false])))))
    all_goals (try omega)
    all_goals (refine fin_k [0, 1, 2] ?_; (simp (maxSteps := 1000000) (disch := first | exact dq | fail) only [go_sem]))
end Go.Proofs.Ytejhomoafhnipaa.AM

set_option linter.unusedVariables false
set_option linter.unusedSimpArgs false
set_option maxRecDepth 20000
namespace Go.Proofs.Ytejhomoafhnipaa.AM
open Go Go.RowKit

theorem rk_set {Nx : List Int} {N i p : Nat} (hp : Nx.getD i 0 = (p : Int)) : (rowF N (rkF Nx i)).set p (.int .i64 ((i : Int) + 1)) = rowF N (rkF Nx (i + 1)) := by
  rw [rowF_set]
  refine rowF_congr (fun m hm => ?_)
  rw [rkF, hp]
  by_cases e : m = p
  · subst e; rw [if_pos rfl, if_pos rfl]; omega
  · rw [if_neg e, if_neg (by omega)]
theorem two_take {n : Nat} {Nx : List Int} {i : Nat} (h : i < Nx.length) : twoL n (Nx.take (i + 1)) = twoL n (Nx.take i) ++ (if Nx.getD i 0 < n then [Nx.getD i 0] else []) := by
  unfold twoL
  rw [take_snoc _ h, List.filter_append]
  congr 1
  generalize Nx.getD i 0 = x
  by_cases hc : x < n
  · rw [if_pos hc]; simp [hc]
  · rw [if_neg hc]; simp [hc]
theorem one_take {n : Nat} {Nx : List Int} {i : Nat} (h : i < Nx.length) : oneL n (Nx.take (i + 1)) = oneL n (Nx.take i) ++ (if Nx.getD i 0 % 3 = 1 ∧ Nx.getD i 0 - 1 < n then [Nx.getD i 0 - 1] else []) := by
  unfold oneL
  rw [take_snoc _ h, List.filter_append, List.map_append]
  congr 1
  generalize Nx.getD i 0 = x
  by_cases hc : x % 3 = 1 ∧ x - 1 < n
  · rw [if_pos hc]; simp [hc]
  · rw [if_neg hc]; simp [hc]
theorem two_len (n : Nat) (Nx : List Int) : (twoL n Nx).length ≤ Nx.length := List.length_filter_le _ _
theorem one_len (n : Nat) (Nx : List Int) : (oneL n Nx).length ≤ Nx.length := by unfold oneL; rw [List.length_map]; exact List.length_filter_le _ _
theorem smp_get {l next : List Int} {i : Nat} (h : i < next.length) : (smp l next).getD i 0 = (pls l.length 2).getD (next.getD i 0).toNat 0 := by unfold smp; exact map_getD h
theorem smp_len (l next : List Int) : (smp l next).length = next.length := by simp [smp]
set_option maxHeartbeats 4000000 in
theorem end_spec (l next : List Int) (h2 : 2 ≤ l.length) (hl : l.length ≤ 300000) (hnl : next.length ≤ 700000) (hnx : ∀ x ∈ next, 0 ≤ x ∧ x < (pls l.length 2).length) :
    PCalls Try.prog 53 [lev l (pls l.length 2), inl next] (inl (endL l (smp l next))) := by
  obtain ⟨N, hN⟩ : ∃ N, N = l.length + 3 := ⟨_, rfl⟩
  have hN' : (l.length : Int) + 3 = (N : Int) := by omega
  have hsl := smp_len l next
  have hNx : ∀ i, i < next.length → ∃ p q : Nat, next.getD i 0 = q ∧ q < (pls l.length 2).length ∧ (pls l.length 2).getD q 0 = p ∧ (smp l next).getD i 0 = p ∧ p ≤ l.length := fun i hi => by
    have h1 := hnx _ (getD_mem hi)
    rw [pls_len] at h1 ⊢
    have h3 := pls_get (n := l.length) (j := (next.getD i 0).toNat) (by omega)
    exact ⟨plP l.length (next.getD i 0).toNat, (next.getD i 0).toNat, by omega, by omega, h3, by rw [smp_get hi, h3], plP_le (by omega)⟩
  have hpl := pls_le l.length 2
  generalize smp l next = Nx at *
  generalize pls l.length 2 = P at *
  refine PCalls.of_aw Try.func53 rfl (by unfold Callable; kernel_rfl) (by kernel_rfl) (by simp [Try.ntmps53]) ?_; rw [Try.ntmps53, Try.results53]; (simp (maxSteps := 1000000) (disch := first | exact dq | fail) only [go_sem, lev])
  (repeat' (first
    | ((first | with_reducible (first | refine aw_seq ?_ | refine aw_region (aops_run ?_)) | (with_reducible refine aw_regionD (fun _ => .p) mixed ?_ (dops_run ?_); (· kernel_rfl)) | (with_reducible refine aw_regionD (fun _ => .r) mixed ?_ (dops_run ?_); (· kernel_rfl)) | with_reducible (first | refine aw_condK ?_ | refine aw_skip ?_ | refine aw_ret ?_ | refine aw_exit ?_ | refine aw_label ?_ | refine aw_block ?_ | refine aw_scope ?_ | refine And.intro ?_ ?_)) <;> (try (simp (maxSteps := 1000000) (disch := first | exact dq | fail) only [go_sem, hN'])))
    | (with_reducible (first | refine wantK_split (fun h => ?_) (fun h => ?_) | refine condK_split (fun h => ?_) (fun h => ?_) | refine pickV_split (fun h => ?_) (fun h => ?_)) <;> (try (simp (maxSteps := 1000000) (disch := first | exact dq | fail) only [go_sem] at h)) <;> (try (simp (maxSteps := 1000000) (disch := first | exact dq | fail) only [go_sem, h, hN'])))))
  all_goals (try omega)
  refine aw_loop (α := Nat) (fun i => ⟨173, sl [(1, .iv (inl next)), (2, .mp 0 0), (5, .iv (.int .i64 l.length)), (6, .mp 2 0), (7, .msl 3 0 (twoL l.length (Nx.take i)).length (twoL l.length (Nx.take i)).length), (30, .iv (inl next)), (31, .iv (.int .i64 next.length)), (32, .iv (.int .i64 i))],
      [.var 55 [.iv (inl l), .iv (inl P)], .row true 3 1 (rowF N (rkF Nx i)), .var 22 [.msl 1 0 N N], .row true 3 1 ((twoL l.length (Nx.take i)).map (IV.int .i64))], 0⟩)
    (fun i => i ≤ next.length) (fun i => next.length - i) 0 (wk_by [0, 2, 3, 4] ?_) (by omega) ?_
  · (simp (maxSteps := 1000000) (disch := first | exact dq | fail) only [go_sem, rowF_rep])
    exact ⟨⟨rfl, rfl⟩, rfl⟩
  rintro i hi
  have htl := two_len l.length (Nx.take i)
  rw [List.length_take] at htl
  by_cases h : i < next.length
  · obtain ⟨p, q, e1, e2, e3, e4, e5⟩ := hNx i h
    have hgl := rowF_len N (rkF Nx i)
    have hset := rk_set (N := N) e4
    have hg := rowF_get (n := N) (rkF Nx i) (show p < N by omega)
    have htt := two_take (n := l.length) (Nx := Nx) (i := i) (by omega)
    rw [e4] at htt
    by_cases hc : (p : Int) < l.length
    · rw [if_pos hc] at htt
      (repeat' (first
    | ((first | with_reducible (first | refine aw_seq ?_ | refine aw_region (aops_run ?_)) | (with_reducible refine aw_regionD (fun _ => .p) mixed ?_ (dops_run ?_); (· kernel_rfl)) | (with_reducible refine aw_regionD (fun _ => .r) mixed ?_ (dops_run ?_); (· kernel_rfl)) | with_reducible (first | refine aw_condK ?_ | refine aw_skip ?_ | refine aw_ret ?_ | refine aw_exit ?_ | refine aw_label ?_ | refine aw_block ?_ | refine aw_scope ?_ | refine And.intro ?_ ?_)) <;> (try (simp (maxSteps := 1000000) (disch := first | exact dq | fail) only [go_sem, e1, e3, hgl, hg, hset, hc, decide_true])))
    | (with_reducible (first | refine wantK_split (fun h => ?_) (fun h => ?_) | refine condK_split (fun h => ?_) (fun h => ?_) | refine pickV_split (fun h => ?_) (fun h => ?_)) <;> (try (simp (maxSteps := 1000000) (disch := first | exact dq | fail) only [go_sem] at h)) <;> (try (simp (maxSteps := 1000000) (disch := first | exact dq | fail) only [go_sem, h, e1, e3, hgl, hg, hset, hc, decide_true])))))
      all_goals (try omega)
      refine ⟨i + 1, by omega, wk_by [0, 1, 2, 3] ?_, by omega⟩
      rw [htt]
      (simp (maxSteps := 1000000) (disch := first | exact dq | fail) only [go_sem])
      simp
    · rw [if_neg hc, List.append_nil] at htt
      (repeat' (first
    | ((first | with_reducible (first | refine aw_seq ?_ | refine aw_region (aops_run ?_)) | (with_reducible refine aw_regionD (fun _ => .p) mixed ?_ (dops_run ?_); (· kernel_rfl)) | (with_reducible refine aw_regionD (fun _ => .r) mixed ?_ (dops_run ?_); (· kernel_rfl)) | with_reducible (first | refine aw_condK ?_ | refine aw_skip ?_ | refine aw_ret ?_ | refine aw_exit ?_ | refine aw_label ?_ | refine aw_block ?_ | refine aw_scope ?_ | refine And.intro ?_ ?_)) <;> (try (simp (maxSteps := 1000000) (disch := first | exact dq | fail) only [go_sem, e1, e3, hgl, hg, hset, hc, decide_false])))
    | (with_reducible (first | refine wantK_split (fun h => ?_) (fun h => ?_) | refine condK_split (fun h => ?_) (fun h => ?_) | refine pickV_split (fun h => ?_) (fun h => ?_)) <;> (try (simp (maxSteps := 1000000) (disch := first | exact dq | fail) only [go_sem] at h)) <;> (try (simp (maxSteps := 1000000) (disch := first | exact dq | fail) only [go_sem, h, e1, e3, hgl, hg, hset, hc, decide_false])))))
      all_goals (try omega)
      refine ⟨i + 1, by omega, wk_by [0, 1, 2, 3] ?_, by omega⟩
      rw [htt]
      (simp (maxSteps := 1000000) (disch := first | exact dq | fail) only [go_sem])
  · obtain rfl : i = next.length := by omega
    have htk : Nx.take next.length = Nx := by rw [← hsl]; exact List.take_length
    rw [htk] at htl ⊢
    (repeat' (first
    | ((first | with_reducible (first | refine aw_seq ?_ | refine aw_region (aops_run ?_)) | (with_reducible refine aw_regionD (fun _ => .p) mixed ?_ (dops_run ?_); (· kernel_rfl)) | (with_reducible refine aw_regionD (fun _ => .r) mixed ?_ (dops_run ?_); (· kernel_rfl)) | with_reducible (first | refine aw_condK ?_ | refine aw_skip ?_ | refine aw_ret ?_ | refine aw_exit ?_ | refine aw_label ?_ | refine aw_block ?_ | refine aw_scope ?_ | refine And.intro ?_ ?_)) <;> (try (simp (maxSteps := 1000000) (disch := first | exact dq | fail) only [go_sem])))
    | (with_reducible (first | refine wantK_split (fun h => ?_) (fun h => ?_) | refine condK_split (fun h => ?_) (fun h => ?_) | refine pickV_split (fun h => ?_) (fun h => ?_)) <;> (try (simp (maxSteps := 1000000) (disch := first | exact dq | fail) only [go_sem] at h)) <;> (try (simp (maxSteps := 1000000) (disch := first | exact dq | fail) only [go_sem, h])))))
    all_goals (try omega)
    refine aw_loop (α := Nat) (fun i => ⟨173, sl [(2, .mp 0 0), (5, .iv (.int .i64 l.length)), (6, .mp 2 0), (7, .msl 3 0 (twoL l.length Nx).length (twoL l.length Nx).length), (10, .msl 4 0 (oneL l.length (Nx.take i)).length (oneL l.length (Nx.take i)).length), (62, .iv (inl next)), (63, .iv (.int .i64 next.length)), (64, .iv (.int .i64 i))],
        [.var 55 [.iv (inl l), .iv (inl P)], .row true 3 1 (rowF N (rkF Nx next.length)), .var 22 [.msl 1 0 N N], .row true 3 1 ((twoL l.length Nx).map (IV.int .i64)), .row true 3 1 ((oneL l.length (Nx.take i)).map (IV.int .i64))], 0⟩)
      (fun i => i ≤ next.length) (fun i => next.length - i) 0 (wk_by [0, 1, 2, 3, 4] ?_) (by omega) ?_
    · (simp (maxSteps := 1000000) (disch := first | exact dq | fail) only [go_sem])
      trivial
    clear hi h
    rintro i hi
    have hol := one_len l.length (Nx.take i)
    rw [List.length_take] at hol
    by_cases h : i < next.length
    · obtain ⟨p, q, e1, e2, e3, e4, e5⟩ := hNx i h
      have hot := one_take (n := l.length) (Nx := Nx) (i := i) (by omega)
      rw [e4] at hot
      by_cases hc : p % 3 = 1
      · have hc1 : Int.tmod (p : Int) 3 = 1 := by rw [Int.tmod_eq_emod_of_nonneg (by omega)]; omega
        have hc2 : (p : Int) - 1 < l.length := by omega
        rw [if_pos ⟨by omega, hc2⟩] at hot
        (repeat' (first
    | ((first | with_reducible (first | refine aw_seq ?_ | refine aw_region (aops_run ?_)) | (with_reducible refine aw_regionD (fun _ => .p) mixed ?_ (dops_run ?_); (· kernel_rfl)) | (with_reducible refine aw_regionD (fun _ => .r) mixed ?_ (dops_run ?_); (· kernel_rfl)) | with_reducible (first | refine aw_condK ?_ | refine aw_skip ?_ | refine aw_ret ?_ | refine aw_exit ?_ | refine aw_label ?_ | refine aw_block ?_ | refine aw_scope ?_ | refine And.intro ?_ ?_)) <;> (try (simp (maxSteps := 1000000) (disch := first | exact dq | fail) only [go_sem, e1, e3, hc1, hc2, decide_true])))
    | (with_reducible (first | refine wantK_split (fun h => ?_) (fun h => ?_) | refine condK_split (fun h => ?_) (fun h => ?_) | refine pickV_split (fun h => ?_) (fun h => ?_)) <;> (try (simp (maxSteps := 1000000) (disch := first | exact dq | fail) only [go_sem] at h)) <;> (try (simp (maxSteps := 1000000) (disch := first | exact dq | fail) only [go_sem, h, e1, e3, hc1, hc2, decide_true])))))
        all_goals (try omega)
        refine ⟨i + 1, by omega, wk_by [0, 1, 2, 3, 4] ?_, by omega⟩
        rw [hot]
        (simp (maxSteps := 1000000) (disch := first | exact dq | fail) only [go_sem])
        simp
      · have hc1 : ¬ (Int.tmod (p : Int) 3 = 1) := by rw [Int.tmod_eq_emod_of_nonneg (by omega)]; omega
        rw [if_neg (by omega), List.append_nil] at hot
        (repeat' (first
    | ((first | with_reducible (first | refine aw_seq ?_ | refine aw_region (aops_run ?_)) | (with_reducible refine aw_regionD (fun _ => .p) mixed ?_ (dops_run ?_); (· kernel_rfl)) | (with_reducible refine aw_regionD (fun _ => .r) mixed ?_ (dops_run ?_); (· kernel_rfl)) | with_reducible (first | refine aw_condK ?_ | refine aw_skip ?_ | refine aw_ret ?_ | refine aw_exit ?_ | refine aw_label ?_ | refine aw_block ?_ | refine aw_scope ?_ | refine And.intro ?_ ?_)) <;> (try (simp (maxSteps := 1000000) (disch := first | exact dq | fail) only [go_sem, e1, e3, hc1, decide_false])))
    | (with_reducible (first | refine wantK_split (fun h => ?_) (fun h => ?_) | refine condK_split (fun h => ?_) (fun h => ?_) | refine pickV_split (fun h => ?_) (fun h => ?_)) <;> (try (simp (maxSteps := 1000000) (disch := first | exact dq | fail) only [go_sem] at h)) <;> (try (simp (maxSteps := 1000000) (disch := first | exact dq | fail) only [go_sem, h, e1, e3, hc1, decide_false])))))
        all_goals (try omega)
        refine ⟨i + 1, by omega, wk_by [0, 1, 2, 3, 4] ?_, by omega⟩
        rw [hot]
        (simp (maxSteps := 1000000) (disch := first | exact dq | fail) only [go_sem])
    · obtain rfl : i = next.length := by omega
      rw [htk] at hol ⊢
      have hon : ∀ k, k < (oneL l.length Nx).length → ∃ o : Nat, (oneL l.length Nx).getD k 0 = o ∧ o + 2 < N ∧ o < l.length := fun k hk => by
        have hm := getD_mem hk
        generalize (oneL l.length Nx).getD k 0 = x at hm ⊢
        unfold oneL at hm
        obtain ⟨y, hy, rfl⟩ := List.mem_map.1 hm
        rw [List.mem_filter, decide_eq_true_iff] at hy
        obtain ⟨j, hj, e⟩ := List.getElem_of_mem hy.1
        obtain ⟨p, q, e1, e2, e3, e4, e5⟩ := hNx j (by omega)
        rw [getD_el hj, e] at e4
        exact ⟨p - 1, by omega, by omega, by omega⟩
      have htw : ∀ x ∈ twoL l.length Nx, 0 ≤ x ∧ x < l.length := fun x hx => by
        unfold twoL at hx
        rw [List.mem_filter, decide_eq_true_iff] at hx
        obtain ⟨j, hj, e⟩ := List.getElem_of_mem hx.1
        obtain ⟨p, q, e1, e2, e3, e4, e5⟩ := hNx j (by omega)
        rw [getD_el hj, e] at e4
        exact ⟨by omega, hx.2⟩
      rw [← hsl]
      generalize hO : oneL l.length Nx = O at *
      generalize hT : twoL l.length Nx = T at *
      refine aw_wk (wk_frz (i := 10) (y := inl O) (M' := [.var 55 [.iv (inl l), .iv (inl P)], .row true 3 1 (rowF N (rkF Nx Nx.length)), .var 22 [.msl 1 0 N N], .row true 3 1 (T.map (IV.int .i64)), .row false 3 1 (O.map (IV.int .i64))]) ?_) ?_
      · (simp (maxSteps := 1000000) (disch := first | exact dq | fail) only [go_sem])
      (repeat' (first
    | ((first | with_reducible (first | refine aw_seq ?_ | refine aw_region (aops_run ?_)) | (with_reducible refine aw_regionD (fun _ => .p) mixed ?_ (dops_run ?_); (· kernel_rfl)) | (with_reducible refine aw_regionD (fun _ => .r) mixed ?_ (dops_run ?_); (· kernel_rfl)) | with_reducible (first | refine aw_condK ?_ | refine aw_skip ?_ | refine aw_ret ?_ | refine aw_exit ?_ | refine aw_label ?_ | refine aw_block ?_ | refine aw_scope ?_ | refine And.intro ?_ ?_)) <;> (try (simp (maxSteps := 1000000) (disch := first | exact dq | fail) only [go_sem])))
    | (with_reducible (first | refine wantK_split (fun h => ?_) (fun h => ?_) | refine condK_split (fun h => ?_) (fun h => ?_) | refine pickV_split (fun h => ?_) (fun h => ?_)) <;> (try (simp (maxSteps := 1000000) (disch := first | exact dq | fail) only [go_sem] at h)) <;> (try (simp (maxSteps := 1000000) (disch := first | exact dq | fail) only [go_sem, h])))))
      all_goals (try omega)
      refine aw_loop (α := Nat) (fun i => ⟨173, sl [(2, .mp 0 0), (5, .iv (.int .i64 l.length)), (6, .mp 2 0), (7, .msl 3 0 T.length T.length), (10, .iv (inl O)), (14, .msl 4 0 (frL l (O.take i)).length (frL l (O.take i)).length), (88, .iv (inl O)), (89, .iv (.int .i64 O.length)), (90, .iv (.int .i64 i))],
          [.var 55 [.iv (inl l), .iv (inl P)], .row true 3 1 (rowF N (rkF Nx Nx.length)), .var 22 [.msl 1 0 N N], .row true 3 1 (T.map (IV.int .i64)), .row true 3 1 ((frL l (O.take i)).map (IV.int .i64))], 0⟩)
        (fun i => i ≤ O.length) (fun i => O.length - i) 0 (wk_by [0, 1, 2, 3, 5] ?_) (by omega) ?_
      · (simp (maxSteps := 1000000) (disch := first | exact dq | fail) only [go_sem])
        exact ⟨rfl, rfl⟩
      clear hi h
      rintro i hi
      by_cases h : i < O.length
      · obtain ⟨o, e1, e2, e3⟩ := hon i h
        have hft : frL l (O.take (i + 1)) = frL l (O.take i) ++ [l.getD o 0] := by unfold frL; rw [take_snoc _ h, List.map_append, e1]; rfl
        have hfl : (frL l (O.take i)).length = i := by rw [frL_len, List.length_take]; omega
        (repeat' (first
    | ((first | with_reducible (first | refine aw_seq ?_ | refine aw_region (aops_run ?_)) | (with_reducible refine aw_regionD (fun _ => .p) mixed ?_ (dops_run ?_); (· kernel_rfl)) | (with_reducible refine aw_regionD (fun _ => .r) mixed ?_ (dops_run ?_); (· kernel_rfl)) | with_reducible (first | refine aw_condK ?_ | refine aw_skip ?_ | refine aw_ret ?_ | refine aw_exit ?_ | refine aw_label ?_ | refine aw_block ?_ | refine aw_scope ?_ | refine And.intro ?_ ?_)) <;> (try (simp (maxSteps := 1000000) (disch := first | exact dq | fail) only [go_sem, e1])))
    | (with_reducible (first | refine wantK_split (fun h => ?_) (fun h => ?_) | refine condK_split (fun h => ?_) (fun h => ?_) | refine pickV_split (fun h => ?_) (fun h => ?_)) <;> (try (simp (maxSteps := 1000000) (disch := first | exact dq | fail) only [go_sem] at h)) <;> (try (simp (maxSteps := 1000000) (disch := first | exact dq | fail) only [go_sem, h, e1])))))
        all_goals (try omega)
        refine ⟨i + 1, by omega, wk_by [0, 1, 2, 3, 4] ?_, by omega⟩
        rw [hft]
        (simp (maxSteps := 1000000) (disch := first | exact dq | fail) only [go_sem])
        simp
      · obtain rfl : i = O.length := by omega
        rw [List.take_length]
        obtain ⟨m, hm⟩ : ∃ m, m = O.length := ⟨_, rfl⟩
        have hst := steps_spec O.length (by omega)
        have hpr := Pairs_ok (frL l O) (idL O.length) (by rw [frL_len, idL_len]) (by rw [frL_len]; omega)
        change PCalls _ _ _ (.tup [inl (rrL l O), _]) at hpr
        have hrl := rrL_len l O
        have hfl : (frL l O).length = O.length := frL_len l O
        (repeat' (first
    | ((first | with_reducible (first | refine aw_seq ?_ | refine aw_region (aops_run ?_)) | (with_reducible refine aw_regionD (fun _ => .p) mixed ?_ (dops_run ?_); (· kernel_rfl)) | (with_reducible refine aw_regionD (fun _ => .r) mixed ?_ (dops_run ?_); (· kernel_rfl)) | with_reducible (first | refine aw_condK ?_ | refine aw_skip ?_ | refine aw_ret ?_ | refine aw_exit ?_ | refine aw_label ?_ | refine aw_block ?_ | refine aw_scope ?_ | refine And.intro ?_ ?_)) <;> (try (simp (maxSteps := 1000000) (disch := first | exact dq | fail) only [go_sem])))
    | (with_reducible (first | refine wantK_split (fun h => ?_) (fun h => ?_) | refine condK_split (fun h => ?_) (fun h => ?_) | refine pickV_split (fun h => ?_) (fun h => ?_)) <;> (try (simp (maxSteps := 1000000) (disch := first | exact dq | fail) only [go_sem] at h)) <;> (try (simp (maxSteps := 1000000) (disch := first | exact dq | fail) only [go_sem, h])))))
        all_goals (try omega)
        ((first | with_reducible apply left_callf | with_reducible apply leftD_callf | with_reducible apply leftF_callf); (· with_reducible rfl); (· (simp (maxSteps := 1000000) (disch := first | exact dq | fail) only [go_sem]) <;> rfl); (· exact hst); try (simp (maxSteps := 1000000) (disch := first | exact dq | fail) only [go_sem]))
        (repeat' (first
    | ((first | with_reducible (first | refine aw_seq ?_ | refine aw_region (aops_run ?_)) | (with_reducible refine aw_regionD (fun _ => .p) mixed ?_ (dops_run ?_); (· kernel_rfl)) | (with_reducible refine aw_regionD (fun _ => .r) mixed ?_ (dops_run ?_); (· kernel_rfl)) | with_reducible (first | refine aw_condK ?_ | refine aw_skip ?_ | refine aw_ret ?_ | refine aw_exit ?_ | refine aw_label ?_ | refine aw_block ?_ | refine aw_scope ?_ | refine And.intro ?_ ?_)) <;> (try (simp (maxSteps := 1000000) (disch := first | exact dq | fail) only [go_sem])))
    | (with_reducible (first | refine wantK_split (fun h => ?_) (fun h => ?_) | refine condK_split (fun h => ?_) (fun h => ?_) | refine pickV_split (fun h => ?_) (fun h => ?_)) <;> (try (simp (maxSteps := 1000000) (disch := first | exact dq | fail) only [go_sem] at h)) <;> (try (simp (maxSteps := 1000000) (disch := first | exact dq | fail) only [go_sem, h])))))
        all_goals (try omega)
        ((with_reducible apply left_callfF); (· with_reducible rfl); (· (simp (maxSteps := 1000000) (disch := first | exact dq | fail) only [go_sem]) <;> rfl); (· exact hpr); try (simp (maxSteps := 1000000) (disch := first | exact dq | fail) only [go_sem]))
        (repeat' (first
    | ((first | with_reducible (first | refine aw_seq ?_ | refine aw_region (aops_run ?_)) | (with_reducible refine aw_regionD (fun _ => .p) mixed ?_ (dops_run ?_); (· kernel_rfl)) | (with_reducible refine aw_regionD (fun _ => .r) mixed ?_ (dops_run ?_); (· kernel_rfl)) | with_reducible (first | refine aw_condK ?_ | refine aw_skip ?_ | refine aw_ret ?_ | refine aw_exit ?_ | refine aw_label ?_ | refine aw_block ?_ | refine aw_scope ?_ | refine And.intro ?_ ?_)) <;> (try (simp (maxSteps := 1000000) (disch := first | exact dq | fail) only [go_sem])))
    | (with_reducible (first | refine wantK_split (fun h => ?_) (fun h => ?_) | refine condK_split (fun h => ?_) (fun h => ?_) | refine pickV_split (fun h => ?_) (fun h => ?_)) <;> (try (simp (maxSteps := 1000000) (disch := first | exact dq | fail) only [go_sem] at h)) <;> (try (simp (maxSteps := 1000000) (disch := first | exact dq | fail) only [go_sem, h])))))
        all_goals (try omega)
        have hon0 : rowF O.length (srF (rrL l O) O 0) = List.replicate O.length (.int .i64 0) := (rowF_rep _).symm
        refine aw_loop (α := Nat) (fun k => ⟨173, sl [(2, .mp 0 0), (6, .mp 2 0), (7, .msl 3 0 T.length T.length), (10, .iv (inl O)), (19, .msl 4 0 O.length O.length), (114, .iv (inl (rrL l O))), (115, .iv (.int .i64 O.length)), (116, .iv (.int .i64 k))],
            [.var 55 [.iv (inl l), .iv (inl P)], .row true 3 1 (rowF N (rkF Nx Nx.length)), .var 22 [.msl 1 0 N N], .row true 3 1 (T.map (IV.int .i64)), .row true 3 1 (rowF O.length (srF (rrL l O) O k))], 0⟩)
          (fun k => k ≤ O.length) (fun k => O.length - k) 0 (wk_by [0, 1, 2, 3, 5] ?_) (by omega) ?_
        · (simp (maxSteps := 1000000) (disch := first | exact dq | fail) only [go_sem, hrl, hon0])
        clear hi h
        rintro k hk
        by_cases h : k < O.length
        · obtain ⟨q, hq⟩ : ∃ q : Nat, (rrL l O).getD k 0 = q := ⟨((rrL l O).getD k 0).toNat, by have := (rrL_range (l := l) h).1; omega⟩
          have hq2 : q < O.length := by have := (rrL_range (l := l) h).2; omega
          have hgl := rowF_len O.length (srF (rrL l O) O k)
          have hg := rowF_get (n := O.length) (srF (rrL l O) O k) hq2
          have hset : (rowF O.length (srF (rrL l O) O k)).set q (.int .i64 (O.getD k 0)) = rowF O.length (srF (rrL l O) O (k + 1)) := by
            rw [rowF_set]
            refine rowF_congr (fun m hm => ?_)
            rw [srF, hq]
            by_cases e : m = q
            · subst e; rw [if_pos rfl, if_pos rfl]
            · rw [if_neg e, if_neg (by omega)]
          (repeat' (first
    | ((first | with_reducible (first | refine aw_seq ?_ | refine aw_region (aops_run ?_)) | (with_reducible refine aw_regionD (fun _ => .p) mixed ?_ (dops_run ?_); (· kernel_rfl)) | (with_reducible refine aw_regionD (fun _ => .r) mixed ?_ (dops_run ?_); (· kernel_rfl)) | with_reducible (first | refine aw_condK ?_ | refine aw_skip ?_ | refine aw_ret ?_ | refine aw_exit ?_ | refine aw_label ?_ | refine aw_block ?_ | refine aw_scope ?_ | refine And.intro ?_ ?_)) <;> (try (simp (maxSteps := 1000000) (disch := first | exact dq | fail) only [go_sem, hq, hgl, hg, hset, hrl])))
    | (with_reducible (first | refine wantK_split (fun h => ?_) (fun h => ?_) | refine condK_split (fun h => ?_) (fun h => ?_) | refine pickV_split (fun h => ?_) (fun h => ?_)) <;> (try (simp (maxSteps := 1000000) (disch := first | exact dq | fail) only [go_sem] at h)) <;> (try (simp (maxSteps := 1000000) (disch := first | exact dq | fail) only [go_sem, h, hq, hgl, hg, hset, hrl])))))
          all_goals (try omega)
          refine ⟨k + 1, by omega, wk_by [0, 1, 2, 3, 4] ?_, by omega⟩
          (simp (maxSteps := 1000000) (disch := first | exact dq | fail) only [go_sem])
        · obtain rfl : k = O.length := by omega
          have hsr : rowF O.length (srF (rrL l O) O O.length) = (srL l O).map (IV.int .i64) := by unfold rowF srL; rw [List.map_map]; rfl
          rw [hsr]
          have hsn := srL_len l O
          have hsb : ∀ x ∈ srL l O, 0 ≤ x ∧ x < l.length := fun x hx => by
            rw [srL_mem] at hx
            obtain ⟨j, hj, e⟩ := List.getElem_of_mem hx
            obtain ⟨o, e1, e2, e3⟩ := hon j hj
            rw [getD_el hj, e] at e1
            omega
          generalize hS : srL l O = S at *
          refine aw_wk ((wk_frz (i := 19) (y := inl S) (M' := [.var 55 [.iv (inl l), .iv (inl P)], .row true 3 1 (rowF N (rkF Nx Nx.length)), .var 22 [.msl 1 0 N N], .row true 3 1 (T.map (IV.int .i64)), .row false 3 1 (S.map (IV.int .i64))]) ?_).trans
            (wk_frz (i := 7) (y := inl T) (M' := [.var 55 [.iv (inl l), .iv (inl P)], .row true 3 1 (rowF N (rkF Nx Nx.length)), .var 22 [.msl 1 0 N N], .row false 3 1 (T.map (IV.int .i64)), .row false 3 1 (S.map (IV.int .i64))]) ?_)) ?_
          · rw [← hsn]
            (simp (maxSteps := 1000000) (disch := first | exact dq | fail) only [go_sem])
          · (simp (maxSteps := 1000000) (disch := first | exact dq | fail) only [go_sem])
          (repeat' (first
    | ((first | with_reducible (first | refine aw_seq ?_ | refine aw_region (aops_run ?_)) | (with_reducible refine aw_regionD (fun _ => .p) mixed ?_ (dops_run ?_); (· kernel_rfl)) | (with_reducible refine aw_regionD (fun _ => .r) mixed ?_ (dops_run ?_); (· kernel_rfl)) | with_reducible (first | refine aw_condK ?_ | refine aw_skip ?_ | refine aw_ret ?_ | refine aw_exit ?_ | refine aw_label ?_ | refine aw_block ?_ | refine aw_scope ?_ | refine And.intro ?_ ?_)) <;> (try (simp (maxSteps := 1000000) (disch := first | exact dq | fail) only [go_sem])))
    | (with_reducible (first | refine wantK_split (fun h => ?_) (fun h => ?_) | refine condK_split (fun h => ?_) (fun h => ?_) | refine pickV_split (fun h => ?_) (fun h => ?_)) <;> (try (simp (maxSteps := 1000000) (disch := first | exact dq | fail) only [go_sem] at h)) <;> (try (simp (maxSteps := 1000000) (disch := first | exact dq | fail) only [go_sem, h])))))
          all_goals (try omega)
          generalize hle : (fun (s t : Int) => lessB l (rkF Nx Nx.length) s.toNat t.toNat) = le
          refine aw_loop (α := List Int × List Int × List Int) (fun x => ⟨173, sl [(7, .iv (inl x.2.1)), (19, .iv (inl x.1)), (22, .fn 71 [.mp 0 0, .mp 2 0]), (23, .msl 3 0 x.2.2.length x.2.2.length)],
              [.var 55 [.iv (inl l), .iv (inl P)], .row true 3 1 (rowF N (rkF Nx Nx.length)), .var 22 [.msl 1 0 N N], .row true 3 1 (x.2.2.map (IV.int .i64))], 0⟩)
            (fun x => x.2.2 ++ mrg le x.1 x.2.1 = mrg le S T ∧ (∀ y ∈ x.1, 0 ≤ y ∧ y < l.length) ∧ (∀ y ∈ x.2.1, 0 ≤ y ∧ y < l.length)) (fun x => x.1.length + x.2.1.length) (S, T, []) (wk_by [0, 1, 2, 5] ?_) ⟨rfl, hsb, htw⟩ ?_
          · (simp (maxSteps := 1000000) (disch := first | exact dq | fail) only [go_sem])
          clear hk h
          rintro ⟨A, B, out⟩ ⟨hI, hA, hB⟩
          dsimp only at hI hA hB
          have htot := congrArg List.length hI
          rw [List.length_append, mrg_len, mrg_len] at htot
          have hol2 : out.length ≤ 1500000 := by omega
          match A, B with
          | [], [] =>
            rw [mrg, List.append_nil] at hI
            (repeat' (first
    | ((first | with_reducible (first | refine aw_seq ?_ | refine aw_region (aops_run ?_)) | (with_reducible refine aw_regionD (fun _ => .p) mixed ?_ (dops_run ?_); (· kernel_rfl)) | (with_reducible refine aw_regionD (fun _ => .r) mixed ?_ (dops_run ?_); (· kernel_rfl)) | with_reducible (first | refine aw_condK ?_ | refine aw_skip ?_ | refine aw_ret ?_ | refine aw_exit ?_ | refine aw_label ?_ | refine aw_block ?_ | refine aw_scope ?_ | refine And.intro ?_ ?_)) <;> (try (simp (maxSteps := 1000000) (disch := first | exact dq | fail) only [go_sem])))
    | (with_reducible (first | refine wantK_split (fun h => ?_) (fun h => ?_) | refine condK_split (fun h => ?_) (fun h => ?_) | refine pickV_split (fun h => ?_) (fun h => ?_)) <;> (try (simp (maxSteps := 1000000) (disch := first | exact dq | fail) only [go_sem] at h)) <;> (try (simp (maxSteps := 1000000) (disch := first | exact dq | fail) only [go_sem, h])))))
            all_goals (try omega)
            rw [hI]
            simp only [endL, hO, hT, hS, hle]
          | x :: A, [] =>
            simp only [List.length_cons, List.length_nil] at htot
            (repeat' (first
    | ((first | with_reducible (first | refine aw_seq ?_ | refine aw_region (aops_run ?_)) | (with_reducible refine aw_regionD (fun _ => .p) mixed ?_ (dops_run ?_); (· kernel_rfl)) | (with_reducible refine aw_regionD (fun _ => .r) mixed ?_ (dops_run ?_); (· kernel_rfl)) | with_reducible (first | refine aw_condK ?_ | refine aw_skip ?_ | refine aw_ret ?_ | refine aw_exit ?_ | refine aw_label ?_ | refine aw_block ?_ | refine aw_scope ?_ | refine And.intro ?_ ?_)) <;> (try (simp (maxSteps := 1000000) (disch := first | exact dq | fail) only [go_sem])))
    | (with_reducible (first | refine wantK_split (fun h => ?_) (fun h => ?_) | refine condK_split (fun h => ?_) (fun h => ?_) | refine pickV_split (fun h => ?_) (fun h => ?_)) <;> (try (simp (maxSteps := 1000000) (disch := first | exact dq | fail) only [go_sem] at h)) <;> (try (simp (maxSteps := 1000000) (disch := first | exact dq | fail) only [go_sem, h])))))
            all_goals (try omega)
            refine ⟨(A, [], out ++ [x]), ⟨by rw [← hI, List.append_assoc]; cases A <;> simp [mrg], fun y hy => hA y (by simp [hy]), hB⟩, wk_by [0, 1, 2, 3] ?_, by simp⟩
            (simp (maxSteps := 1000000) (disch := first | exact dq | fail) only [go_sem])
            simp
          | [], y :: B =>
            simp only [List.length_cons, List.length_nil] at htot
            (repeat' (first
    | ((first | with_reducible (first | refine aw_seq ?_ | refine aw_region (aops_run ?_)) | (with_reducible refine aw_regionD (fun _ => .p) mixed ?_ (dops_run ?_); (· kernel_rfl)) | (with_reducible refine aw_regionD (fun _ => .r) mixed ?_ (dops_run ?_); (· kernel_rfl)) | with_reducible (first | refine aw_condK ?_ | refine aw_skip ?_ | refine aw_ret ?_ | refine aw_exit ?_ | refine aw_label ?_ | refine aw_block ?_ | refine aw_scope ?_ | refine And.intro ?_ ?_)) <;> (try (simp (maxSteps := 1000000) (disch := first | exact dq | fail) only [go_sem])))
    | (with_reducible (first | refine wantK_split (fun h => ?_) (fun h => ?_) | refine condK_split (fun h => ?_) (fun h => ?_) | refine pickV_split (fun h => ?_) (fun h => ?_)) <;> (try (simp (maxSteps := 1000000) (disch := first | exact dq | fail) only [go_sem] at h)) <;> (try (simp (maxSteps := 1000000) (disch := first | exact dq | fail) only [go_sem, h])))))
            all_goals (try omega)
            refine ⟨([], B, out ++ [y]), ⟨by rw [← hI, List.append_assoc]; simp [mrg], hA, fun z hz => hB z (by simp [hz])⟩, wk_by [0, 1, 2, 3] ?_, by simp⟩
            (simp (maxSteps := 1000000) (disch := first | exact dq | fail) only [go_sem])
            simp
          | x :: A, y :: B =>
            simp only [List.length_cons] at htot
            obtain ⟨s, hs⟩ : ∃ s : Nat, x = s := ⟨x.toNat, by have := (hA x (by simp)).1; omega⟩
            obtain ⟨t, ht⟩ : ∃ t : Nat, y = t := ⟨y.toNat, by have := (hB y (by simp)).1; omega⟩
            have hs2 := (hA x (by simp)).2
            have ht2 := (hB y (by simp)).2
            subst hs ht
            have hq := lessf_spec l P N (rkF Nx Nx.length) s t (by omega) (by omega) (by omega) (by omega)
            unfold endM at hq
            have hlq : le (s : Int) (t : Int) = lessB l (rkF Nx Nx.length) s t := by rw [← hle]; simp
            (repeat' (first
    | ((first | with_reducible (first | refine aw_seq ?_ | refine aw_region (aops_run ?_)) | (with_reducible refine aw_regionD (fun _ => .r) mixed ?_ (dops_run ?_); (· kernel_rfl)) | with_reducible (first | refine aw_condK ?_ | refine aw_skip ?_ | refine aw_ret ?_ | refine aw_exit ?_ | refine aw_label ?_ | refine aw_block ?_ | refine aw_scope ?_ | refine And.intro ?_ ?_)) <;> (try (simp (maxSteps := 1000000) (disch := first | exact dq | fail) only [go_sem])))
    | (with_reducible (first | refine wantK_split (fun h => ?_) (fun h => ?_) | refine condK_split (fun h => ?_) (fun h => ?_) | refine pickV_split (fun h => ?_) (fun h => ?_)) <;> (try (simp (maxSteps := 1000000) (disch := first | exact dq | fail) only [go_sem] at h)) <;> (try (simp (maxSteps := 1000000) (disch := first | exact dq | fail) only [go_sem, h])))))
            all_goals (try omega)
            ((first | with_reducible refine left_callMs [0, 2, 1] (hq) ?_ ?_ | with_reducible refine leftD_callMs [0, 2, 1] rfl (hq) ?_ ?_ | with_reducible refine leftD_callRs [0, 2, 1] (by decide) (hq) ?_ ?_); (· (simp (maxSteps := 1000000) (disch := first | exact dq | fail) only [go_sem])); try (simp (maxSteps := 1000000) (disch := first | exact dq | fail) only [go_sem]))
            cases hb : lessB l (rkF Nx Nx.length) s t with
            | true =>
              rw [hb] at hlq
              rw [mrg, if_pos hlq] at hI
              (repeat' (first
    | ((first | with_reducible (first | refine aw_seq ?_ | refine aw_region (aops_run ?_)) | (with_reducible refine aw_regionD (fun _ => .r) mixed ?_ (dops_run ?_); (· kernel_rfl)) | with_reducible (first | refine aw_condK ?_ | refine aw_skip ?_ | refine aw_ret ?_ | refine aw_exit ?_ | refine aw_label ?_ | refine aw_block ?_ | refine aw_scope ?_ | refine And.intro ?_ ?_)) <;> (try (simp (maxSteps := 1000000) (disch := first | exact dq | fail) only [go_sem])))
    | (with_reducible (first | refine wantK_split (fun h => ?_) (fun h => ?_) | refine condK_split (fun h => ?_) (fun h => ?_) | refine pickV_split (fun h => ?_) (fun h => ?_)) <;> (try (simp (maxSteps := 1000000) (disch := first | exact dq | fail) only [go_sem] at h)) <;> (try (simp (maxSteps := 1000000) (disch := first | exact dq | fail) only [go_sem, h])))))
              all_goals (try omega)
              refine ⟨(A, (t : Int) :: B, out ++ [(s : Int)]), ⟨by rw [← hI, List.append_assoc]; rfl, fun y hy => hA y (by simp [hy]), hB⟩, wk_by [0, 1, 2, 3] ?_, by simp⟩
              (simp (maxSteps := 1000000) (disch := first | exact dq | fail) only [go_sem])
              simp
            | false =>
              rw [hb] at hlq
              rw [mrg, if_neg (by rw [hlq]; simp)] at hI
              (repeat' (first
    | ((first | with_reducible (first | refine aw_seq ?_ | refine aw_region (aops_run ?_)) | (with_reducible refine aw_regionD (fun _ => .r) mixed ?_ (dops_run ?_); (· kernel_rfl)) | with_reducible (first | refine aw_condK ?_ | refine aw_skip ?_ | refine aw_ret ?_ | refine aw_exit ?_ | refine aw_label ?_ | refine aw_block ?_ | refine aw_scope ?_ | refine And.intro ?_ ?_)) <;> (try (simp (maxSteps := 1000000) (disch := first | exact dq | fail) only [go_sem])))
    | (with_reducible (first | refine wantK_split (fun h => ?_) (fun h => ?_) | refine condK_split (fun h => ?_) (fun h => ?_) | refine pickV_split (fun h => ?_) (fun h => ?_)) <;> (try (simp (maxSteps := 1000000) (disch := first | exact dq | fail) only [go_sem] at h)) <;> (try (simp (maxSteps := 1000000) (disch := first | exact dq | fail) only [go_sem, h])))))
              all_goals (try omega)
              refine ⟨((s : Int) :: A, B, out ++ [(t : Int)]), ⟨by rw [← hI, List.append_assoc]; rfl, hA, fun z hz => hB z (by simp [hz])⟩, wk_by [0, 1, 2, 3] ?_, by simp⟩
              (simp (maxSteps := 1000000) (disch := first | exact dq | fail) only [go_sem])
              simp
end Go.Proofs.Ytejhomoafhnipaa.AM

set_option linter.unusedVariables false
set_option linter.unusedSimpArgs false
set_option maxRecDepth 20000
namespace Go.Proofs.Ytejhomoafhnipaa.AM
open Go Go.RowKit

theorem mxF_at (f : Nat → Int) : ∀ i, ∃ j, j ≤ i ∧ mxF f i = f j
  | 0 => ⟨0, Nat.le_refl _, rfl⟩
  | i + 1 => by
    obtain ⟨j, hj, e⟩ := mxF_at f i
    rw [mxF]
    by_cases h : mxF f i ≤ f (i + 1)
    · exact ⟨i + 1, Nat.le_refl _, by omega⟩
    · exact ⟨j, by omega, by omega⟩
theorem mxF_ge (f : Nat → Int) : ∀ i j, j ≤ i → f j ≤ mxF f i
  | 0, j, h => by
    have : j = 0 := by omega
    subst this; exact Int.le_refl _
  | i + 1, j, h => by
    rw [mxF]
    by_cases e : j = i + 1
    · subst e; omega
    · have := mxF_ge f i j (by omega); omega
theorem rank_full {e : List Int} (h : ∃ j, j < e.length ∧ (rankL e).getD j 0 = (e.length : Int) - 1) : ∀ i j, i < e.length → j < e.length → (rankL e).getD i 0 = (rankL e).getD j 0 → i = j := by
  obtain ⟨j0, hj0, h0⟩ := h
  have h1 := (rank_range hj0).2
  have h2 := setI_len e
  have hlen := rankL_len e
  have hp := pigeon (idL e.length) (rankL e) (idL_nodup _) (fun x hx => by
    unfold idL at hx
    obtain ⟨c, hc, rfl⟩ := List.mem_map.1 hx
    rw [List.mem_range] at hc
    exact rank_all (by omega) (by omega)) (by rw [hlen, idL_len]; exact Nat.le_refl _)
  have hn := hp.nodup_iff.1 (idL_nodup e.length)
  intro i j hi hj hij
  rw [getD_el (by omega), getD_el (by omega)] at hij
  have hw := List.pairwise_iff_getElem.1 (List.nodup_iff_pairwise_ne.1 hn)
  rcases Nat.lt_trichotomy i j with g | g | g
  · exact absurd hij (hw i j (by omega) (by omega) g)
  · exact g
  · exact absurd hij.symm (hw j i (by omega) (by omega) g)
def invR (e : List Int) : List Int := (List.range e.length).map (fun (q : Nat) => srF (rankL e) (idL e.length) e.length q)
theorem invR_spec {e : List Int} (h : ∃ j, j < e.length ∧ (rankL e).getD j 0 = (e.length : Int) - 1) : IsSA ((rankL e).map (· + 1)) (invR e) := by
  have hinj := rank_full h
  have hlen := rankL_len e
  have hrl : ((rankL e).map (· + 1)).length = e.length := by rw [List.length_map, hlen]
  obtain ⟨j0, hj0, h0⟩ := h
  have hset := setI_len e
  have hall : ∀ q : Nat, q < e.length → ∃ k, k < e.length ∧ (rankL e).getD k 0 = (q : Int) := fun q hq => by
    have h1 := (rank_range hj0).2
    have hm := rank_all (l := e) (c := (q : Int)) (by omega) (by omega)
    obtain ⟨k, hk, ek⟩ := List.getElem_of_mem hm
    exact ⟨k, by omega, (getD_el hk).trans ek⟩
  have hil : (invR e).length = e.length := by simp [invR]
  have hat : ∀ q k : Nat, q < e.length → k < e.length → (rankL e).getD k 0 = (q : Int) → (invR e).getD q 0 = (k : Int) := fun q k hq hk hr => by
    unfold invR
    rw [range_atQ hq, srF_spec (m := e.length) (fun i j hi hj he => hinj i j hi hj he) (Nat.le_refl _) hk hr, idL_get hk]
  have hpos : ∀ x ∈ (rankL e).map (· + 1), 1 ≤ x := fun x hx => by
    obtain ⟨y, hy, rfl⟩ := List.mem_map.1 hx
    obtain ⟨k, hk, ek⟩ := List.getElem_of_mem hy
    have := (rank_range (l := e) (i := k) (by omega)).1
    rw [getD_el hk, ek] at this
    show 1 ≤ y + 1
    omega
  refine ⟨?_, fun x => ?_⟩
  · rw [List.pairwise_iff_getElem]
    intro q q' hq hq' hqq
    obtain ⟨k, hk, hr⟩ := hall q (by omega)
    obtain ⟨k', hk', hr'⟩ := hall q' (by omega)
    rw [← getD_el hq, ← getD_el hq', hat q k (by omega) hk hr, hat q' k' (by omega) hk' hr']
    unfold Rs
    rw [Int.toNat_natCast, Int.toNat_natCast, sl2_step hpos (by omega) (by omega)]
    refine .inl ?_
    rw [map_getD (by omega), map_getD (by omega), hr, hr']
    omega
  · rw [hrl]
    constructor
    · intro hx
      obtain ⟨q, hq, rfl⟩ := List.getElem_of_mem hx
      obtain ⟨k, hk, hr⟩ := hall q (by omega)
      rw [← getD_el hq, hat q k (by omega) hk hr]
      omega
    · rintro ⟨h1, h2⟩
      have hr := rank_range (l := e) (i := x.toNat) (by omega)
      have := hat ((rankL e).getD x.toNat 0).toNat x.toNat (by omega) (by omega) (by omega)
      have hm := getD_mem (l := invR e) (k := ((rankL e).getD x.toNat 0).toNat) (by omega)
      rw [this] at hm
      rwa [show ((x.toNat : Nat) : Int) = x from by omega] at hm
theorem nxt_short {l : List Int} (h : 3 ≤ l.length) : (nxt l).length < l.length := by rw [nxt_len]; unfold cntU; omega
theorem nxt_two {l : List Int} (h : 2 ≤ l.length) : 2 ≤ (nxt l).length := by rw [nxt_len]; unfold cntU; omega
def nxE (l : List Int) : List Int := encL ((pls l.length 2).map (fun i => l.getD i.toNat 0)) (pairL ((pls l.length 2).map (fun i => l.getD (i.toNat + 1) 0)) ((pls l.length 2).map (fun i => l.getD (i.toNat + 2) 0)))
theorem nxt_E (l : List Int) : nxt l = (rankL (nxE l)).map (· + 1) := rfl
theorem nxE_len (l : List Int) : (nxE l).length = (nxt l).length := by rw [nxt_E, List.length_map, rankL_len]
theorem nxt_end {l : List Int} (h0 : 0 < (nxt l).length) (h : mxF (fun i => (nxt l).getD i 0) ((nxt l).length - 1) = ((nxt l).length : Int)) : IsSA (nxt l) (invR (nxE l)) := by
  obtain ⟨j, hj, e⟩ := mxF_at (fun i => (nxt l).getD i 0) ((nxt l).length - 1)
  have hE := nxE_len l
  rw [nxt_E]
  refine invR_spec ⟨j, by omega, ?_⟩
  have h1 : (nxt l).getD j 0 = ((nxt l).length : Int) := e.symm.trans h
  rw [nxt_E, map_getD (by rw [rankL_len]; omega), ← nxt_E] at h1
  omega
theorem nxt_le {l : List Int} {j : Nat} (hj : j < (nxt l).length) : (nxt l).getD j 0 ≤ (nxt l).length := by
  have hE := nxE_len l
  have h1 := (rank_range (l := nxE l) (i := j) (by omega)).2
  have h2 := setI_len (nxE l)
  have h3 : (nxt l).getD j 0 = (rankL (nxE l)).getD j 0 + 1 := by rw [nxt_E, map_getD (by rw [rankL_len]; omega)]
  omega
theorem nxt_2 {l : List Int} (hl : ∀ x ∈ l, 1 ≤ x) (h : l.length = 2) : mxF (fun i => (nxt l).getD i 0) ((nxt l).length - 1) = ((nxt l).length : Int) := by
  have hn : (nxt l).length = 2 := by rw [nxt_len, h]; rfl
  have h1 := (nxt_lt (l := l) (j := 1) (k := 0) (by omega) (by omega)).2 (by
    rw [h]
    have z := at_zero hl 2
    have p := at_zero hl 1
    have p2 := at_pos hl 1
    exact .inl (by show l.getD 2 0 < l.getD 1 0; omega))
  have h2 := nxt_pos l _ (getD_mem (l := nxt l) (k := 1) (by omega))
  have h3 := mxF_ge (fun i => (nxt l).getD i 0) ((nxt l).length - 1) 0 (by omega)
  obtain ⟨j, hj, e⟩ := mxF_at (fun i => (nxt l).getD i 0) ((nxt l).length - 1)
  have h4 := nxt_le (l := l) (j := j) (by omega)
  omega
theorem wl_same {a b : List Int} (hl : a.length = b.length) (h : ∀ i k, i < a.length → k < a.length → (a.getD i 0 < a.getD k 0 ↔ b.getD i 0 < b.getD k 0)) : ∀ (m i k : Nat), a.length - i ≤ m → i ≤ a.length → k ≤ a.length → wl (a.drop i) (a.drop k) = wl (b.drop i) (b.drop k)
  | m, i, k, hm, hi, hk => by
    by_cases h1 : i < a.length
    · by_cases h2 : k < a.length
      · match m with
        | 0 => omega
        | m + 1 =>
          have ih := wl_same hl h m (i + 1) (k + 1) (by omega) (by omega) (by omega)
          have e1 := h i k h1 h2
          have e2 := h k i h2 h1
          rw [getD_el h1, getD_el h2, getD_el (by omega), getD_el (by omega)] at e1 e2
          rw [List.drop_eq_getElem_cons h1, List.drop_eq_getElem_cons h2, List.drop_eq_getElem_cons (l := b) (by omega), List.drop_eq_getElem_cons (l := b) (i := k) (by omega), wl, wl, ih]
          by_cases c1 : a[i] < a[k]
          · rw [if_pos c1, if_pos (e1.1 c1)]
          · by_cases c2 : a[k] < a[i]
            · rw [if_neg c1, if_pos c2, if_neg (fun g => c1 (e1.2 g)), if_pos (e2.1 c2)]
            · rw [if_neg c1, if_neg c2, if_neg (fun g => c1 (e1.2 g)), if_neg (fun g => c2 (e2.2 g))]
      · rw [List.drop_of_length_le (l := a) (i := k) (by omega), List.drop_of_length_le (l := b) (i := k) (by omega)]
        cases a.drop i <;> cases b.drop i <;> rfl
    · rw [List.drop_of_length_le (l := a) (i := i) (by omega), List.drop_of_length_le (l := b) (i := i) (by omega)]
      by_cases h2 : k < a.length
      · rw [List.drop_eq_getElem_cons h2, List.drop_eq_getElem_cons (l := b) (i := k) (by omega)]; rfl
      · rw [List.drop_of_length_le (l := a) (i := k) (by omega), List.drop_of_length_le (l := b) (i := k) (by omega)]
def rk1 (l : List Int) : List Int := (rankL l).map (· + 1)
theorem rk1_len (l : List Int) : (rk1 l).length = l.length := by unfold rk1; rw [List.length_map, rankL_len]
theorem rk1_sa {l s : List Int} (h : IsSA (rk1 l) s) : IsSA l s := by
  have hlen := rk1_len l
  have key : ∀ i k, i ≤ l.length → k ≤ l.length → (sl2 (rk1 l) i k ↔ sl2 l i k) := fun i k hi hk => by
    unfold sl2
    rw [wl_same (a := rk1 l) (b := l) hlen (fun i k hi hk => by
      rw [hlen] at hi hk
      unfold rk1
      rw [map_getD (by rw [rankL_len]; exact hi), map_getD (by rw [rankL_len]; exact hk), ← rank_lt hi hk]
      omega) _ i k (Nat.le_refl _) (by omega) (by omega)]
  refine ⟨List.Pairwise.imp_of_mem (fun {a b} ha hb hab => ?_) h.1, fun x => by rw [h.2, hlen]⟩
  have h1 := (h.2 a).1 ha
  have h2 := (h.2 b).1 hb
  exact (key _ _ (by omega) (by omega)).1 hab
theorem rk1_pos (l : List Int) : ∀ x ∈ rk1 l, 1 ≤ x := fun x hx => by
  unfold rk1 at hx
  obtain ⟨y, hy, rfl⟩ := List.mem_map.1 hx
  obtain ⟨k, hk, ek⟩ := List.getElem_of_mem hy
  have hlen := rankL_len l
  have := (rank_range (l := l) (i := k) (by omega)).1
  rw [getD_el hk, ek] at this
  show 1 ≤ y + 1
  omega
end Go.Proofs.Ytejhomoafhnipaa.AM

set_option linter.unusedVariables false
set_option linter.unusedSimpArgs false
set_option maxRecDepth 20000
namespace Go.Proofs.Ytejhomoafhnipaa.AM
open Go Go.RowKit

def insS (l : List Int) (i : Int) : List Int → List Int
  | [] => [i]
  | y :: s => if wl (l.drop i.toNat) (l.drop y.toNat) = true then i :: y :: s else y :: insS l i s
theorem insS_mem (l : List Int) (i x : Int) : ∀ s, x ∈ insS l i s ↔ x = i ∨ x ∈ s
  | [] => by simp [insS]
  | y :: s => by
    rw [insS]
    split
    · simp
    · rw [List.mem_cons, insS_mem l i x s, List.mem_cons]; grind
theorem insS_pw {l : List Int} {i : Int} (hi : 0 ≤ i ∧ i < l.length) : ∀ s, s.Pairwise (Rs l) → (∀ y ∈ s, 0 ≤ y ∧ y < i) → (insS l i s).Pairwise (Rs l)
  | [], _, _ => by simp [insS]
  | y :: s, hs, hy => by
    rw [insS]
    rw [List.pairwise_cons] at hs
    split
    · rename_i h
      refine List.pairwise_cons.2 ⟨fun z hz => ?_, List.pairwise_cons.2 hs⟩
      rcases List.mem_cons.1 hz with e | e
      · rw [e]; exact h
      · exact Rs_trans (show Rs l i y from h) (hs.1 z e)
    · rename_i h
      refine List.pairwise_cons.2 ⟨fun z hz => ?_, insS_pw hi s hs.2 (fun z hz => hy z (by simp [hz]))⟩
      rw [insS_mem] at hz
      rcases hz with e | e
      · rw [e]
        have h2 := hy y (by simp)
        rcases sl2_tri (l := l) (i := i.toNat) (k := y.toNat) (by omega) (by omega) with g | g | g
        · exact absurd g h
        · omega
        · exact g
      · exact hs.1 z e
def saN (l : List Int) : Nat → List Int
  | 0 => []
  | k + 1 => insS l k (saN l k)
theorem saN_mem (l : List Int) (x : Int) : ∀ k : Nat, x ∈ saN l k ↔ 0 ≤ x ∧ x < k
  | 0 => by simp [saN]
  | k + 1 => by rw [saN, insS_mem, saN_mem l x k]; omega
theorem saN_pw (l : List Int) : ∀ k, k ≤ l.length → (saN l k).Pairwise (Rs l)
  | 0, _ => List.Pairwise.nil
  | k + 1, h => insS_pw ⟨by omega, by omega⟩ _ (saN_pw l k (by omega)) (fun y hy => (saN_mem l y k).1 hy)
def saL (l : List Int) : List Int := saN l l.length
theorem saL_sa (l : List Int) : IsSA l (saL l) := ⟨saN_pw l _ (Nat.le_refl _), fun x => saN_mem l x _⟩
theorem sa_eq {l s : List Int} (h : IsSA l s) : s = saL l := h.unique (saL_sa l)
theorem insS_len (l : List Int) (i : Int) : ∀ s, (insS l i s).length = s.length + 1
  | [] => rfl
  | y :: s => by
    rw [insS]; split
    · rfl
    · rw [List.length_cons, insS_len l i s, List.length_cons]
theorem saN_len (l : List Int) : ∀ k, (saN l k).length = k
  | 0 => rfl
  | k + 1 => by rw [saN, insS_len, saN_len l k]
theorem saL_len (l : List Int) : (saL l).length = l.length := saN_len l _
theorem end_sa {l : List Int} (hl : ∀ x ∈ l, 1 ≤ x) : endL l (smp l (saL (nxt l))) = saL l := sa_eq (endL_spec hl (smp_spec hl (saL_sa _)))
theorem sa_rk (l : List Int) : saL (rk1 l) = saL l := sa_eq (rk1_sa (saL_sa _))
theorem sa_one {l : List Int} (h : l.length < 2) : idL l.length = saL l := sa_eq ⟨by
  match l, h with
  | [], _ => exact List.Pairwise.nil
  | [x], _ => exact List.pairwise_singleton _ _, fun x => by
    unfold idL
    rw [List.mem_map]
    constructor
    · rintro ⟨c, hc, rfl⟩; rw [List.mem_range] at hc; exact ⟨by omega, by omega⟩
    · rintro ⟨h1, h2⟩; exact ⟨x.toNat, List.mem_range.2 (by omega), by omega⟩⟩
theorem Backward_M (xs : List IV) : MCalls Try.prog 52 [.iv (.sl 2 xs)] [] (.fn 70 [.mp 0 0]) [.var 53 [.iv (.sl 2 xs)]] := by
  refine MCalls.of_aw Try.func52 rfl (by unfold Callable; kernel_rfl) (by kernel_rfl) (by simp [Try.ntmps52]) (by (simp (disch := first | exact dq | fail) only [go_sem])) ?_; rw [Try.ntmps52, Try.results52]; (simp (disch := first | exact dq | fail) only [go_sem])
  (repeat' (first
    | ((first | with_reducible (first | refine aw_seq ?_ | refine aw_region (aops_run ?_)) | (with_reducible refine aw_regionD (fun _ => .p) mixed ?_ (dops_run ?_); (· kernel_rfl)) | (with_reducible refine aw_regionD (fun _ => .r) mixed ?_ (dops_run ?_); (· kernel_rfl)) | with_reducible (first | refine aw_condK ?_ | refine aw_skip ?_ | refine aw_ret ?_ | refine aw_exit ?_ | refine aw_label ?_ | refine aw_block ?_ | refine aw_scope ?_ | refine And.intro ?_ ?_)) <;> (try (simp (disch := first | exact dq | fail) only [go_sem])))
    | (with_reducible (first | refine wantK_split (fun h => ?_) (fun h => ?_) | refine condK_split (fun h => ?_) (fun h => ?_) | refine pickV_split (fun h => ?_) (fun h => ?_)) <;> (try (simp (disch := first | exact dq | fail) only [go_sem] at h)) <;> (try (simp (disch := first | exact dq | fail) only [go_sem, h])))))
  all_goals (try omega)
  refine fin_k [0] ?_
  (simp (disch := first | exact dq | fail) only [go_sem])
theorem Ranks_M (l : List Int) (hpos : 0 < l.length) (hl : l.length ≤ 1000000) : MCalls Try.prog 47 [.iv (inl l)] [] (.msl 0 0 l.length l.length) [.row true 3 1 ((rankL l).map (IV.int .i64))] := by
  have hS := Compact_M (sortI l) (by rw [sortI_len]; exact hl)
  rw [sortI_len] at hS
  change MCalls _ _ _ _ (.msl 0 0 (setI l).length _) [.row _ _ _ ((setI l ++ List.replicate (l.length - (setI l).length) 0).map _)] at hS
  have hsl := setI_len l
  refine MCalls.of_aw Try.func47 rfl (by unfold Callable; kernel_rfl) (by kernel_rfl) (by simp [Try.ntmps47]) (by (simp (disch := first | exact dq | fail) only [go_sem])) ?_; rw [Try.ntmps47, Try.results47]; (simp (disch := first | exact dq | fail) only [go_sem])
  (repeat' (first
    | ((first | with_reducible (first | refine aw_seq ?_ | refine aw_region (aops_run ?_)) | (with_reducible refine aw_regionD (fun _ => .p) mixed ?_ (dops_run ?_); (· kernel_rfl)) | (with_reducible refine aw_regionD (fun _ => .r) mixed ?_ (dops_run ?_); (· kernel_rfl)) | with_reducible (first | refine aw_condK ?_ | refine aw_skip ?_ | refine aw_ret ?_ | refine aw_exit ?_ | refine aw_label ?_ | refine aw_block ?_ | refine aw_scope ?_ | refine And.intro ?_ ?_)) <;> (try (simp (disch := first | exact dq | fail) only [go_sem])))
    | (with_reducible (first | refine wantK_split (fun h => ?_) (fun h => ?_) | refine condK_split (fun h => ?_) (fun h => ?_) | refine pickV_split (fun h => ?_) (fun h => ?_)) <;> (try (simp (disch := first | exact dq | fail) only [go_sem] at h)) <;> (try (simp (disch := first | exact dq | fail) only [go_sem, h])))))
  ((first | with_reducible refine left_callMs [] (Clone_M l hpos hl) ?_ ?_ | with_reducible refine leftD_callMs [] rfl (Clone_M l hpos hl) ?_ ?_ | with_reducible refine leftD_callRs [] (by decide) (Clone_M l hpos hl) ?_ ?_); (· (simp (disch := first | exact dq | fail) only [go_sem])); try (simp (disch := first | exact dq | fail) only [go_sem]))
  (repeat' (first
    | ((first | with_reducible (first | refine aw_seq ?_ | refine aw_region (aops_run ?_)) | (with_reducible refine aw_regionD (fun _ => .p) mixed ?_ (dops_run ?_); (· kernel_rfl)) | (with_reducible refine aw_regionD (fun _ => .r) mixed ?_ (dops_run ?_); (· kernel_rfl)) | with_reducible (first | refine aw_condK ?_ | refine aw_skip ?_ | refine aw_ret ?_ | refine aw_exit ?_ | refine aw_label ?_ | refine aw_block ?_ | refine aw_scope ?_ | refine And.intro ?_ ?_)) <;> (try (simp (disch := first | exact dq | fail) only [go_sem])))
    | (with_reducible (first | refine wantK_split (fun h => ?_) (fun h => ?_) | refine condK_split (fun h => ?_) (fun h => ?_) | refine pickV_split (fun h => ?_) (fun h => ?_)) <;> (try (simp (disch := first | exact dq | fail) only [go_sem] at h)) <;> (try (simp (disch := first | exact dq | fail) only [go_sem, h])))))
  ((first | with_reducible refine left_callMs [1] (Sort_M l hl) ?_ ?_ | with_reducible refine leftD_callMs [1] rfl (Sort_M l hl) ?_ ?_ | with_reducible refine leftD_callRs [1] (by decide) (Sort_M l hl) ?_ ?_); (· (simp (disch := first | exact dq | fail) only [go_sem])); try (simp (disch := first | exact dq | fail) only [go_sem]))
  (repeat' (first
    | ((first | with_reducible (first | refine aw_seq ?_ | refine aw_region (aops_run ?_)) | (with_reducible refine aw_regionD (fun _ => .p) mixed ?_ (dops_run ?_); (· kernel_rfl)) | (with_reducible refine aw_regionD (fun _ => .r) mixed ?_ (dops_run ?_); (· kernel_rfl)) | with_reducible (first | refine aw_condK ?_ | refine aw_skip ?_ | refine aw_ret ?_ | refine aw_exit ?_ | refine aw_label ?_ | refine aw_block ?_ | refine aw_scope ?_ | refine And.intro ?_ ?_)) <;> (try (simp (disch := first | exact dq | fail) only [go_sem])))
    | (with_reducible (first | refine wantK_split (fun h => ?_) (fun h => ?_) | refine condK_split (fun h => ?_) (fun h => ?_) | refine pickV_split (fun h => ?_) (fun h => ?_)) <;> (try (simp (disch := first | exact dq | fail) only [go_sem] at h)) <;> (try (simp (disch := first | exact dq | fail) only [go_sem, h])))))
  ((first | with_reducible refine left_callMs [1] (hS) ?_ ?_ | with_reducible refine leftD_callMs [1] rfl (hS) ?_ ?_ | with_reducible refine leftD_callRs [1] (by decide) (hS) ?_ ?_); (· (simp (disch := first | exact dq | fail) only [go_sem])); try (simp (disch := first | exact dq | fail) only [go_sem]))
  (repeat' (first
    | ((first | with_reducible (first | refine aw_seq ?_ | refine aw_region (aops_run ?_)) | (with_reducible refine aw_regionD (fun _ => .p) mixed ?_ (dops_run ?_); (· kernel_rfl)) | (with_reducible refine aw_regionD (fun _ => .r) mixed ?_ (dops_run ?_); (· kernel_rfl)) | with_reducible (first | refine aw_condK ?_ | refine aw_skip ?_ | refine aw_ret ?_ | refine aw_exit ?_ | refine aw_label ?_ | refine aw_block ?_ | refine aw_scope ?_ | refine And.intro ?_ ?_)) <;> (try (simp (disch := first | exact dq | fail) only [go_sem])))
    | (with_reducible (first | refine wantK_split (fun h => ?_) (fun h => ?_) | refine condK_split (fun h => ?_) (fun h => ?_) | refine pickV_split (fun h => ?_) (fun h => ?_)) <;> (try (simp (disch := first | exact dq | fail) only [go_sem] at h)) <;> (try (simp (disch := first | exact dq | fail) only [go_sem, h])))))
  have hmono : ∀ i j, i ≤ j → j < (setI l).length → (setI l).getD i 0 ≤ (setI l).getD j 0 := srt_mono ((setI_pair l).imp (fun h => Int.le_of_lt h))
  have hfz : List.take (setI l).length ((setI l ++ List.replicate (l.length - (setI l).length) 0).map (IV.int .i64)) = (setI l).map (IV.int .i64) := by
    rw [← List.map_take, List.take_left' rfl]
  have hlz : ((setI l ++ List.replicate (l.length - (setI l).length) 0).map (IV.int .i64)).length = l.length := by
    simp; omega
  have hrk : ∀ i, i < l.length → (rankL l).take (i + 1) = (rankL l).take i ++ [(findI (setI l) (l.getD i 0) : Int)] := by
    intro i hi
    rw [take_snoc _ (by rw [rankL_len]; exact hi)]
    congr 2
    unfold rankL
    simp [List.getD, List.getElem?_eq_getElem hi]
  generalize hR : (setI l ++ List.replicate (l.length - (setI l).length) 0).map (IV.int .i64) = R at *
  have hB := fun x => Bs_spec (setI l) x (by omega) hmono
  have hrl := rankL_len l
  generalize rankL l = r at *
  refine aw_loop (α := Nat) (fun i => ⟨33, sl [(3, .iv (inl (setI l))), (4, .msl 0 0 i i), (15, .iv (inl l)), (16, .iv (.int .i64 l.length)), (17, .iv (.int .i64 i))], [.row true 3 1 ((r.take i).map (IV.int .i64))], 0⟩)
    (fun i => i ≤ l.length) (fun i => l.length - i) 0 ((wk_frz (i := 3) (y := inl (setI l)) (M' := [.row true 3 1 [], .row false 3 1 R, .row true 3 1 []]) ?_).trans (wk_by [2] ?_)) (by omega) ?_
  · (simp (disch := first | exact dq | fail) only [go_sem, hlz, hfz, hsl])
  · (simp (disch := first | exact dq | fail) only [go_sem])
  rintro i hi
  by_cases hlt : i < l.length
  · obtain ⟨v, hv⟩ := hB (l.getD i 0)
    have htk : (r.take i).length = i := by rw [List.length_take]; omega
    have hsn := hrk i hlt
    (repeat' (first
    | ((first | with_reducible (first | refine aw_seq ?_ | refine aw_region (aops_run ?_)) | (with_reducible refine aw_regionD (fun _ => .p) mixed ?_ (dops_run ?_); (· kernel_rfl)) | (with_reducible refine aw_regionD (fun _ => .r) mixed ?_ (dops_run ?_); (· kernel_rfl)) | with_reducible (first | refine aw_condK ?_ | refine aw_skip ?_ | refine aw_ret ?_ | refine aw_exit ?_ | refine aw_label ?_ | refine aw_block ?_ | refine aw_scope ?_ | refine And.intro ?_ ?_)) <;> (try (simp (disch := first | exact dq | fail) only [go_sem, htk])))
    | (with_reducible (first | refine wantK_split (fun h => ?_) (fun h => ?_) | refine condK_split (fun h => ?_) (fun h => ?_) | refine pickV_split (fun h => ?_) (fun h => ?_)) <;> (try (simp (disch := first | exact dq | fail) only [go_sem] at h)) <;> (try (simp (disch := first | exact dq | fail) only [go_sem, h, htk])))))
    all_goals (try omega)
    ((first | with_reducible apply left_callf | with_reducible apply leftD_callf | with_reducible apply leftF_callf); (· with_reducible rfl); (· (simp (disch := first | exact dq | fail) only [go_sem]) <;> rfl); (· exact hv); try (simp (disch := first | exact dq | fail) only [go_sem]))
    (repeat' (first
    | ((first | with_reducible (first | refine aw_seq ?_ | refine aw_region (aops_run ?_)) | (with_reducible refine aw_regionD (fun _ => .p) mixed ?_ (dops_run ?_); (· kernel_rfl)) | (with_reducible refine aw_regionD (fun _ => .r) mixed ?_ (dops_run ?_); (· kernel_rfl)) | with_reducible (first | refine aw_condK ?_ | refine aw_skip ?_ | refine aw_ret ?_ | refine aw_exit ?_ | refine aw_label ?_ | refine aw_block ?_ | refine aw_scope ?_ | refine And.intro ?_ ?_)) <;> (try (simp (disch := first | exact dq | fail) only [go_sem, htk])))
    | (with_reducible (first | refine wantK_split (fun h => ?_) (fun h => ?_) | refine condK_split (fun h => ?_) (fun h => ?_) | refine pickV_split (fun h => ?_) (fun h => ?_)) <;> (try (simp (disch := first | exact dq | fail) only [go_sem] at h)) <;> (try (simp (disch := first | exact dq | fail) only [go_sem, h, htk])))))
    all_goals (try omega)
    refine ⟨i + 1, by omega, wk_by [0] ?_, by omega⟩
    (simp (disch := first | exact dq | fail) only [go_sem, hsn, List.map_append])
  · have : i = l.length := by omega
    subst this
    have htk : r.take l.length = r := List.take_of_length_le (by omega)
    have htk2 : List.take l.length (r.map (IV.int .i64)) = r.map (IV.int .i64) := List.take_of_length_le (by rw [List.length_map]; omega)
    rw [htk]
    (repeat' (first
    | ((first | with_reducible (first | refine aw_seq ?_ | refine aw_region (aops_run ?_)) | (with_reducible refine aw_regionD (fun _ => .p) mixed ?_ (dops_run ?_); (· kernel_rfl)) | (with_reducible refine aw_regionD (fun _ => .r) mixed ?_ (dops_run ?_); (· kernel_rfl)) | with_reducible (first | refine aw_condK ?_ | refine aw_skip ?_ | refine aw_ret ?_ | refine aw_exit ?_ | refine aw_label ?_ | refine aw_block ?_ | refine aw_scope ?_ | refine And.intro ?_ ?_)) <;> (try (simp (disch := first | exact dq | fail) only [go_sem, hrl, htk2])))
    | (with_reducible (first | refine wantK_split (fun h => ?_) (fun h => ?_) | refine condK_split (fun h => ?_) (fun h => ?_) | refine pickV_split (fun h => ?_) (fun h => ?_)) <;> (try (simp (disch := first | exact dq | fail) only [go_sem] at h)) <;> (try (simp (disch := first | exact dq | fail) only [go_sem, h, hrl, htk2])))))
    all_goals (try omega)
    refine fin_k [0] ?_
    (simp (disch := first | exact dq | fail) only [go_sem])
end Go.Proofs.Ytejhomoafhnipaa.AM
