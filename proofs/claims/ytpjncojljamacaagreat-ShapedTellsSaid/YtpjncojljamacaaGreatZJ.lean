
/- Chapter 5: slices.Insert at heaps as a call of the machine: one heap, ahead of the end. -/
import Derived.Test.YtpjncojljamacaaGreatZI
set_option linter.unusedVariables false
set_option linter.unusedSimpArgs false
namespace Go.Proofs.YtpjncojljamacaaGreat.AM
open Go Go.RowKit

theorem row_one {X O : Nat → Prop} {w0 : World} {M : List MO} {ρ : Nat → Option Nat} {w : World} (hm : MemOk X O w0 M ρ w) {k : Nat} {m : Bool} {T : TypeId} {sz : Nat} {xs : List IV} (hM : M[k]? = some (.row m T sz xs)) {b : Nat} (hb : ρ k = some b) (h0 : 0 < sz)
    {arr : Array Value} {fz : Nat × Nat} (ha : w.heap[b]? = some (.cells arr T fz)) (p : Nat) (hp : p < xs.length * sz) : ∃ u, arr[p]? = some u ∧ u.oneCell' = true := by
  obtain ⟨hf, arr2, fz2, g6, g7, g8, g9⟩ := row_cell hm hM hb
  rw [ha] at g6; cases g6
  have hd : p / sz < xs.length := Nat.div_lt_of_lt_mul (by rw [Nat.mul_comm]; exact hp)
  have hmd : p % sz < sz := Nat.mod_lt _ h0
  have hx := List.getElem?_eq_getElem hd
  have hl := IV.fits_len (hf _ _ hx)
  have hy : (xs[p / sz]).cells[p % sz]? = some ((xs[p / sz]).cells[p % sz]'(by omega)) := List.getElem?_eq_getElem (by omega)
  obtain ⟨u, h1, h2⟩ := g9 _ _ _ _ hx hy
  have e : p / sz * sz + p % sz = p := by rw [Nat.mul_comm]; exact Nat.div_add_mod p sz
  rw [e] at h1
  exact ⟨u, h1, oneCell_of_one h2 (IV.fits_one (hf _ _ hx) hy)⟩

theorem ins_get {α : Type} (xs : List α) (h : α) (i : Nat) (hi : i < xs.length) (q : Nat) : (xs.take i ++ [h] ++ xs.drop i)[q]? = if q < i then xs[q]? else if q = i then some h else xs[q - 1]? := by
  have e1 : (xs.take i).length = i := by rw [List.length_take]; omega
  by_cases h1 : q < i
  · rw [if_pos h1, List.append_assoc, List.getElem?_append_left (by omega), List.getElem?_take_of_lt h1]
  · rw [if_neg h1, List.append_assoc, List.getElem?_append_right (by omega), e1]
    by_cases h2 : q = i
    · subst h2; rw [if_pos rfl, Nat.sub_self]; rfl
    · rw [if_neg h2, List.getElem?_append_right (by simp; omega), List.getElem?_drop]
      congr 1; simp; omega

theorem ins_cells {E : Nat → Prop} {w : World} (xs : List IV) (h : IV) (i : Nat) (hi : i < xs.length) {arr arr' : Array Value} {us vs : List Value}
    (hf : ∀ (i : Nat) (x : IV), xs[i]? = some x → x.fits 3 = true) (hh : h.fits 3 = true)
    (hp : ∀ p, p < (xs.length + 1) * 3 → arr'[p]? = if i * 3 ≤ p ∧ p < i * 3 + 3 then vs[p - i * 3]? else if (i + 1) * 3 ≤ p then us[p - (i + 1) * 3]? else arr[p]?)
    (hus : ∀ j, j < (xs.length - i) * 3 → us[j]? = arr[i * 3 + j]?)
    (h1 : ∀ (i : Nat) (x : IV) (j : Nat) (y : IV), xs[i]? = some x → x.cells[j]? = some y → ∃ u, arr[i * 3 + j]? = some u ∧ RepI E w y u)
    (h2 : ∀ (j : Nat) (y : IV), h.cells[j]? = some y → ∃ u, vs[j]? = some u ∧ RepI E w y u) :
    ∀ (q : Nat) (x : IV) (j : Nat) (y : IV), (xs.take i ++ [h] ++ xs.drop i)[q]? = some x → x.cells[j]? = some y → ∃ u, arr'[q * 3 + j]? = some u ∧ RepI E w y u := by
  intro q x j y hx hy
  have hj : ∀ z : IV, z.fits 3 = true → z.cells[j]? = some y → j < 3 := fun z hz hc => by have := lt_of_get hc; rw [IV.fits_len hz] at this; exact this
  rw [ins_get xs h i hi] at hx
  split at hx
  · have h3 := hj _ (hf _ _ hx) hy
    rw [hp _ (by omega), if_neg (by omega), if_neg (by omega)]
    exact h1 _ _ _ _ hx hy
  · split at hx
    · cases hx
      have h3 := hj _ hh hy
      rw [hp _ (by omega), if_pos (by omega), show q * 3 + j - i * 3 = j from by omega]
      exact h2 _ _ hy
    · have h3 := hj _ (hf _ _ hx) hy
      have hl := lt_of_get hx
      rw [hp _ (by omega), if_neg (by omega), if_pos (by omega), hus _ (by omega), show i * 3 + (q * 3 + j - (i + 1) * 3) = (q - 1) * 3 + j from by omega]
      exact h1 _ _ _ _ hx hy

theorem insH_len {α : Type} (xs : List α) (h : α) (i : Nat) (hi : i < xs.length) : (xs.take i ++ [h] ++ xs.drop i).length = xs.length + 1 := by
  simp; omega

theorem ins_fits (xs : List IV) (h : IV) (i : Nat) (hi : i < xs.length) {n : Nat} (hf : ∀ (i : Nat) (x : IV), xs[i]? = some x → x.fits n = true) (hh : h.fits n = true) :
    ∀ (q : Nat) (x : IV), (xs.take i ++ [h] ++ xs.drop i)[q]? = some x → x.fits n = true := by
  intro q x hx
  rw [ins_get xs h i hi] at hx
  split at hx
  · exact hf _ _ hx
  · split at hx
    · cases hx; exact hh
    · exact hf _ _ hx

theorem News.wrote {w w1 w2 : World} {x y : Obj} (h : News w w1 x) (k : Wrote w1 w2 w.heap.size) (hy : w2.heap[w.heap.size]? = some y) : News w w2 y := by
  refine ⟨k.os.trans h.os, k.tape.trans h.tape, k.output.trans h.output, Array.ext_getElem? (fun j => ?_)⟩
  rw [Array.getElem?_push]
  by_cases e : j = w.heap.size
  · rw [if_pos e, e]; exact hy
  · rw [if_neg e, k.oth j e, h.heap, Array.getElem?_push, if_neg e]

theorem Insert_lt (xs : List IV) (h : IV) (i : Nat) (hi : i < xs.length) (hb : (xs.length + 1) * 40 ≤ 140737488355328) :
    MCalls Tryz.prog 62 [.msl 0 0 xs.length xs.length, .iv (.int .i64 i), .msl 1 0 1 1] [.row true 84 3 xs, .row true 84 3 [h]] (.msl 0 0 (xs.length + 1) (xs.length + 1)) [.row true 84 3 (xs.take i ++ [h] ++ xs.drop i), .row true 84 3 [h]] := by
  refine ⟨by unfold Callable; kernel_rfl, by simp, fun X w ρ vs hm hl hv => ?_⟩
  have hM0 : [MO.row true 84 3 xs, MO.row true 84 3 [h]][0]? = some (.row true 84 3 xs) := rfl
  have hM1 : [MO.row true 84 3 xs, MO.row true 84 3 [h]][1]? = some (.row true 84 3 [h]) := rfl
  match vs, hl, hv with
  | [v0, v1, v2], _, hv =>
    have r0 := hv 0 _ v0 rfl rfl
    have r1 := hv 1 _ v1 rfl rfl
    have r2 := hv 2 _ v2 rfl rfl
    obtain ⟨_, A, c, rfl, hlc, g2⟩ := msl_spec r0 hM0 rfl
    obtain ⟨_, A2, c2, rfl, hlc2, g2'⟩ := msl_spec r2 hM1 rfl
    cases r1 with
    | iv _ _ r1 =>
    cases r1
    cases hk : ρ 0 with
    | none => rw [hk] at g2; omega
    | some b =>
    cases hk2 : ρ 1 with
    | none => rw [hk2] at g2'; simp at g2'
    | some vb =>
    rw [hk] at g2; rw [hk2] at g2'
    obtain ⟨g3, arr, fz, g4, g5⟩ := g2
    obtain ⟨g3', arr2, fz2, g4', g5'⟩ := g2'
    have hA := g3 (by omega); subst hA
    have hA2 := g3' (by omega); subst hA2
    have hne : vb ≠ b := fun e => by
      have := hm.inj 0 1 b (by simp) (by simp) hk (e ▸ hk2)
      omega
    obtain ⟨hf, arr', fz', g6, g7, g8, g9⟩ := row_cell hm hM0 hk
    rw [g4] at g6; cases g6
    obtain ⟨hf2, _, _, g6', g7', g8', g9'⟩ := row_cell hm hM1 hk2
    rw [g4'] at g6'; cases g6'
    have hone := row_one hm hM0 hk (by omega) g4
    have hone2 := row_one hm hM1 hk2 (by omega) g4'
    simp only [Nat.zero_add, Nat.zero_mul, List.length_cons, List.length_nil, Nat.one_mul] at *
    obtain ⟨us, hus⟩ : ∃ us, us = (arr.toList.drop (i * 3)).take ((xs.length - i) * 3) := ⟨_, rfl⟩
    obtain ⟨cs, hcs⟩ : ∃ cs, cs = arr2.toList.take 3 := ⟨_, rfl⟩
    have husl : us.length = (xs.length - i) * 3 := by rw [hus]; simp; omega
    have hug : ∀ j, j < (xs.length - i) * 3 → us[j]? = arr[i * 3 + j]? := fun j hj => by rw [hus, List.getElem?_take_of_lt hj, List.getElem?_drop, Array.getElem?_toList]
    have hcl : cs.length = 3 := by rw [hcs]; simp; omega
    have hcg : ∀ j, j < 3 → cs[j]? = arr2[j]? := fun j hj => by rw [hcs, List.getElem?_take_of_lt hj, Array.getElem?_toList]
    have hu1 : ∀ u ∈ us, u.oneCell' = true := fun u hu => by
      obtain ⟨j, hj⟩ := List.getElem?_of_mem hu
      have hjl := lt_of_get hj
      rw [hug j (by omega)] at hj
      obtain ⟨u2, h2, h3⟩ := hone (i * 3 + j) (by omega)
      rw [hj] at h2; cases h2; exact h3
    have hc1 : ∀ u ∈ cs, u.oneCell' = true := fun u hu => by
      obtain ⟨j, hj⟩ := List.getElem?_of_mem hu
      have hjl := lt_of_get hj
      rw [hcg j (by omega)] at hj
      obtain ⟨u2, h2, h3⟩ := hone2 j (by omega)
      rw [hj] at h2; cases h2; exact h3
    by_cases hroom : xs.length + 1 ≤ c
    · have hsz : w.drew.heap[b]? = some (.cells arr 84 fz) := g4
      obtain ⟨k1, arr1, k2, k3, k4⟩ := setCells_wrote (P := Tryz.prog) b ((i + 1) * 3) us w.drew hsz g7 (by omega) hu1
      obtain ⟨m1, arr3, m2, m3, m4⟩ := setCells_wrote (sz := 3) (P := Tryz.prog) b (i * 3) cs (w.drew.setCells b ((i + 1) * 3) us) k2 (fun q (hq : q < arr1.size + slk 3) => g7 q (by omega)) (by omega) hc1
      have hwr : Wrote w ((w.drew.setCells b ((i + 1) * 3) us).setCells b (i * 3) cs) b := (show Wrote w w.drew b from ⟨rfl, rfl, rfl, rfl, fun _ _ => rfl⟩).trans (k1.trans m1)
      have hinf : (Tryz.prog.info? 84).map (·.size) = some 3 := by kernel_rfl
      have hsh1 : w.shape? vb = some (84, arr2.size) := by simp [World.shape?, g4']
      have hsh2 : w.shape? b = some (84, arr.size) := by simp [World.shape?, g4]
      have hfz2 : ∀ p, p ≤ arr2.size → w.frozen? ⟨vb, p, none⟩ = false := fun p hp => by simp only [World.frozen?, g4']; exact g7' p (by simp only [slk]; omega)
      refine (Tryz.insShift b xs.length c i vb c2 w us cs hi hroom (by omega) ?_ ?_ ?_).mono ?_
      · intro lb cb
        rw [run_callFunc_extern Tryz.func80 (by kernel_rfl) (by kernel_rfl) (by kernel_rfl) (e := Extern.SlicesOverlaps.overlaps #[82, 82] #[4]) (by kernel_rfl),
          Lib.run_overlaps_apart w 82 4 84 Tryz.underlying82 3 Tryz.sizeOf84 ⟨vb, 0, none⟩ ⟨b, (i + 1) * 3, none⟩ 1 c2 lb cb hne _ _ _ _ hsh1 hsh2 (by omega) (hfz2 0 (by omega)) (hfz2 _ (Nat.le_refl _))]
        rfl
      · intro ty dc sc
        refine Go.Proofs.run_copyK w.drew _ _ ty 84 3 (xs.length - i) b ((i + 1) * 3) (xs.length - i) dc ⟨b, i * 3, none⟩ (xs.length + 1 - i) sc us Tryz.underlying82 hinf (by simp only [Nat.min_def]; split <;> omega) husl ?_ ?_ ?_ hu1
        · intro j v hj
          have hjl := lt_of_get hj
          rw [Addr.add_lit, cell_of_cells hsz, ← hug j (by omega)]; exact hj
        · intro j hj
          rw [cell_of_cells hsz, Array.getElem?_eq_getElem (by omega)]; rfl
        · intro j hj
          simp only [World.frozen?, hsz]
          exact g7 _ (by omega)
      · intro ty dc
        refine Go.Proofs.run_copyK (w.drew.setCells b ((i + 1) * 3) us) _ _ ty 84 3 1 b (i * 3) (xs.length + 1 - i) dc ⟨vb, 0, none⟩ 1 c2 cs Tryz.underlying82 hinf (by simp only [Nat.min_def]; split <;> omega) (by omega) ?_ ?_ ?_ hc1
        · intro j v hj
          have hjl := lt_of_get hj
          have e1 : (w.drew.setCells b ((i + 1) * 3) us).heap[vb]? = some (.cells arr2 84 fz2) := (k1.oth vb hne).trans g4'
          rw [Addr.add_lit, cell_of_cells e1, Nat.zero_add, ← hcg j (by omega)]; exact hj
        · intro j hj
          rw [cell_of_cells k2, Array.getElem?_eq_getElem (by omega)]; rfl
        · intro j hj
          simp only [World.frozen?, k2]
          exact g7 _ (by omega)
      · rintro e w' ⟨rfl, rfl⟩
        obtain ⟨hm2, hev⟩ := step_writerow hm hM0 hk (xs' := xs.take i ++ [h] ++ xs.drop i) (by simp; omega) hwr m2 (fun arr4 fz4 h4 => by rw [g4] at h4; cases h4; exact ⟨rfl, m3.trans k3⟩)
          (by rw [insH_len xs h i hi, m3, k3]; omega) (ins_fits xs h i hi hf (hf2 0 h rfl))
          (ins_cells (us := us) (vs := cs) xs h i hi hf (hf2 0 h rfl) (fun p hp => by
            rw [m4 p, k4 p, hcl]
            by_cases q1 : i * 3 ≤ p ∧ p < i * 3 + 3
            · rw [if_pos q1, if_pos q1]
            · rw [if_neg q1, if_neg q1]
              by_cases q2 : (i + 1) * 3 ≤ p
              · rw [if_pos q2, if_pos (by omega)]
              · rw [if_neg q2, if_neg (by omega)]) hug g9 (fun j y hy => by
            have h3 := lt_of_get hy
            rw [IV.fits_len (hf2 0 h rfl)] at h3
            obtain ⟨u, h1, h2⟩ := g9' 0 h j y rfl hy
            exact ⟨u, by rw [hcg j h3]; simpa using h1, h2⟩))
        refine ⟨_, ρ, rfl, hm2, ?_, fun x u hx => hx.mono hev⟩
        refine .msl 0 0 _ _ _ true 84 3 (xs.take i ++ [h] ++ xs.drop i) rfl (by rw [insH_len xs h i hi]; omega) ⟨_, _, _, rfl⟩ (fun _ => ⟨by omega, _, c, by rfl, hroom, ?_⟩)
        rw [hk]
        exact ⟨fun _ => rfl, _, _, m2, by rw [m3, k3]; omega⟩
    · obtain ⟨_, i0, hi0, hzs, hzb, hz, hzc, _, _⟩ := tElem_spec (tElem82)
      simp only at hi0 hzs hzb hz hzc
      have hinf : (Tryz.prog.info? 84).map (·.size) = some 3 := by kernel_rfl
      obtain ⟨ol, hol⟩ : ∃ ol, ol = arr.toList.take (i * 3) := ⟨_, rfl⟩
      have holl : ol.length = i * 3 := by rw [hol]; simp; omega
      have holg : ∀ j, j < i * 3 → ol[j]? = arr[j]? := fun j hj => by rw [hol, List.getElem?_take_of_lt hj, Array.getElem?_toList]
      have hold : (Builtin.firstCells i0.size i (.slice (some ⟨b, 0, none⟩) i c)).run Tryz.prog w.drew = .ok ol.toArray w.drew := by
        rw [hzs]
        exact run_firstCells_some w.drew 3 i ⟨b, 0, none⟩ i c ol holl (fun j v hj => by
          have hjl := lt_of_get hj
          rw [Addr.add_lit, cell_of_cells (w := w.drew) g4, Nat.zero_add, ← holg j (by omega)]; exact hj)
      obtain ⟨G, hG⟩ : ∃ G, G = grownCap w (xs.length + 1) c 84 := ⟨_, rfl⟩
      have hGn : xs.length + 1 ≤ G := by rw [hG]; exact grownCap_ge w _ _ _
      have hG63 : G ≤ 9223372036854775807 := by
        have := grownCap_le_maxLen w (xs.length + 1) c 84 (by unfold maxLen; omega)
        rw [← hG] at this; unfold maxLen at this; omega
      generalize hzz : (Value.agg #[(.int .i64 0), (.int .i64 0), (.slice none 0 0)]) = z at hz hzc
      obtain ⟨ROW, hROW⟩ : ∃ ROW : Array Value, ROW = ol.toArray ++ Builtin.zeroCells z.cells (xs.length + 1 - i) ++ Builtin.zeroCells z.cells (G - (xs.length + 1)) := ⟨_, rfl⟩
      have hRs : ROW.size = G * 3 := by
        rw [hROW]; simp only [Array.size_append, size_zeroCells, hzc, List.size_toArray, holl]; omega
      have hRg : ∀ p, p < i * 3 → ROW[p]? = arr[p]? := fun p hp => by
        rw [hROW, Array.append_assoc, Array.getElem?_append_left (by simp; omega), List.getElem?_toArray]; exact holg p hp
      have hrz : ∀ ty, (Builtin.append_ #[82, 3] ty #[.slice (some ⟨b, 0, none⟩) i c, .int .i64 ((xs.length : Int) + 1 - (i : Int))]).run Tryz.prog w = .ok (.slice (some ⟨w.heap.size, 0, none⟩) (xs.length + 1) G) (w.drew.alloc (.cells ROW 84)) := fun ty => by
        have hh := Lib.run_append_grow_zeros (P := Tryz.prog) w 82 3 ty 84 i0 z .i64 .i64 Tryz.underlying82 Tryz.underlying3 hi0 hz (some ⟨b, 0, none⟩) i c ol hold (xs.length + 1 - i) (by omega) (by omega) (by omega) (by omega) (by rw [hzb]; omega) (by rw [hzb, show i + (xs.length + 1 - i) = xs.length + 1 from by omega]; exact growslice_fits (by omega) hb)
        rw [show i + (xs.length + 1 - i) = xs.length + 1 from by omega, ← hG, ← hROW] at hh
        rw [show (xs.length : Int) + 1 - (i : Int) = ((xs.length + 1 - i : Nat) : Int) from by omega]
        exact hh
      obtain ⟨W1, hW1⟩ : ∃ W1, W1 = w.drew.alloc (.cells ROW 84) := ⟨_, rfl⟩
      rw [← hW1] at hrz
      have hN1 : News w W1 (.cells ROW 84 (0, 0)) := by rw [hW1]; exact ⟨rfl, rfl, rfl, rfl⟩
      obtain ⟨k1, arr1, k2, k3, k4⟩ := setCells_wrote (P := Tryz.prog) w.heap.size (i * 3) cs W1 hN1.new (unfrozen0 (sz := 1) _) (by omega) hc1
      obtain ⟨m1, arr3, m2, m3, m4⟩ := setCells_wrote (P := Tryz.prog) w.heap.size ((i + 1) * 3) us (W1.setCells w.heap.size (i * 3) cs).drew k2 (unfrozen0 (sz := 1) _) (by omega) hu1
      have hbw : b < w.heap.size := hm.lt (by simp) hk
      have hvw : vb < w.heap.size := hm.lt (by simp) hk2
      have hn' := hN1.wrote (k1.trans ((show Wrote (W1.setCells w.heap.size (i * 3) cs) (W1.setCells w.heap.size (i * 3) cs).drew w.heap.size from ⟨rfl, rfl, rfl, rfl, fun _ _ => rfl⟩).trans m1)) m2
      refine (Tryz.insGrow b xs.length c i vb c2 w.heap.size G w W1 (W1.setCells w.heap.size (i * 3) cs) ((W1.setCells w.heap.size (i * 3) cs).drew.setCells w.heap.size ((i + 1) * 3) us) hi hlc (by omega) hGn hG63 hrz ?_ ?_).mono ?_
      · intro ty dc
        refine Go.Proofs.run_copyK W1 _ _ ty 84 3 1 w.heap.size (i * 3) (xs.length + 1 - i) dc ⟨vb, 0, none⟩ 1 c2 cs Tryz.underlying82 hinf (by simp only [Nat.min_def]; split <;> omega) (by omega) ?_ ?_ ?_ hc1
        · intro j v hj
          have hjl := lt_of_get hj
          rw [Addr.add_lit, cell_of_cells ((hN1.old hvw).trans g4'), Nat.zero_add, ← hcg j (by omega)]; exact hj
        · intro j hj
          rw [cell_of_cells hN1.new, Array.getElem?_eq_getElem (by omega)]; rfl
        · intro j hj
          simp only [World.frozen?, hN1.new]
          exact unfrozen0 (sz := 1) ROW _ (by omega)
      · intro ty dc sc
        refine Go.Proofs.run_copyK (W1.setCells w.heap.size (i * 3) cs).drew _ _ ty 84 3 (xs.length - i) w.heap.size ((i + 1) * 3) (xs.length - i) dc ⟨b, i * 3, none⟩ (xs.length - i) sc us Tryz.underlying82 hinf (by simp only [Nat.min_def]; split <;> omega) husl ?_ ?_ ?_ hu1
        · intro j v hj
          have hjl := lt_of_get hj
          have e1 : (W1.setCells w.heap.size (i * 3) cs).drew.heap[b]? = some (.cells arr 84 fz) := ((k1.oth b (by omega)).trans (hN1.old hbw)).trans g4
          rw [Addr.add_lit, cell_of_cells e1, ← hug j (by omega)]; exact hj
        · intro j hj
          rw [cell_of_cells (w := (W1.setCells w.heap.size (i * 3) cs).drew) k2, Array.getElem?_eq_getElem (by omega)]; rfl
        · intro j hj
          have e1 : (W1.setCells w.heap.size (i * 3) cs).drew.heap[w.heap.size]? = some (.cells arr1 84 (0, 0)) := k2
          simp only [World.frozen?, e1]
          exact unfrozen0 (sz := 1) arr1 _ (by omega)
      · rintro e w' ⟨rfl, rfl⟩
        have hev := Evo.moved (X := X) (ρ := ρ) 0 84 3 xs (xs.take i ++ [h] ++ xs.drop i) _ hM0 (by rw [insH_len xs h i hi]; omega) hn'
        have hcc := ins_cells (us := us) (vs := cs) xs h i hi hf (hf2 0 h rfl) (arr' := arr3) (fun p hp => by
            rw [m4 p, k4 p, hcl, husl]
            by_cases q1 : i * 3 ≤ p ∧ p < i * 3 + 3
            · rw [if_neg (by omega), if_pos q1, if_pos q1]
            · rw [if_neg q1]
              by_cases q2 : (i + 1) * 3 ≤ p
              · rw [if_pos q2, if_pos (by omega), if_neg q1]
              · rw [if_neg q2, if_neg (by omega), if_neg q1, hRg p (by omega)]) hug g9 (fun j y hy => by
            have h3 := lt_of_get hy
            rw [IV.fits_len (hf2 0 h rfl)] at h3
            obtain ⟨u, h1, h2⟩ := g9' 0 h j y rfl hy
            exact ⟨u, by rw [hcg j h3]; simpa using h1, h2⟩)
        refine ⟨_, updρ ρ 0 (some w.heap.size), rfl, hm.moved 0 84 3 xs (xs.take i ++ [h] ++ xs.drop i) _ hM0 (by rw [insH_len xs h i hi]; omega) hn' ⟨ins_fits xs h i hi hf (hf2 0 h rfl), ?_⟩, ?_, fun x u hx => hx.mono hev⟩
        · rw [updρ_same]
          refine ⟨_, _, hn'.new, unfrozen0 _, by rw [insH_len xs h i hi, m3, k3, hRs]; omega, fun q x j y hx hy => ?_⟩
          obtain ⟨u, h1, h2⟩ := hcc q x j y hx hy
          exact ⟨u, h1, h2.mono hev.stay⟩
        · refine .msl 0 0 _ _ _ true 84 3 (xs.take i ++ [h] ++ xs.drop i) rfl (by rw [insH_len xs h i hi]; omega) ⟨_, _, _, rfl⟩ (fun _ => ⟨by omega, _, G, by rfl, hGn, ?_⟩)
          rw [updρ_same]
          exact ⟨fun _ => rfl, _, _, hn'.new, by rw [m3, k3, hRs]; omega⟩

end Go.Proofs.YtpjncojljamacaaGreat.AM
