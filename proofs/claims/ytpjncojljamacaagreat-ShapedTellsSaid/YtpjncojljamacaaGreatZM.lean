
/- Chapter 5: shaped.depths: how deep each symbol's heap lies. Lengths to 100000. -/
import Derived.Test.YtpjncojljamacaaGreatZL
import Derived.Test.YtpjncojljamacaaGreatZD
set_option linter.unusedVariables false
set_option linter.unusedSimpArgs false
set_option maxRecDepth 20000
namespace Go.Proofs.YtpjncojljamacaaGreat.AM
open Go Go.RowKit

def hpI (counts : List Int) (i : Nat) : List Hea := ((List.range i).filter (fun c => decide (0 < counts.getD c 0))).map (fun (c : Nat) => ⟨min (counts.getD c 0) mstW, c, [(c : Int)]⟩)
def outI (counts : List Int) (i : Nat) : List Int := (out0 counts).take i ++ List.replicate (counts.length - i) (-1)
theorem hpI_all (counts : List Int) : hpI counts counts.length = hps0 counts := rfl
theorem hpI_zero (counts : List Int) : hpI counts 0 = [] := rfl
theorem hpI_len (counts : List Int) (i : Nat) : (hpI counts i).length ≤ i := by
  unfold hpI
  rw [List.length_map]
  exact Nat.le_trans (List.length_filter_le _ _) (by simp)
theorem hpI_succ (counts : List Int) (i : Nat) : hpI counts (i + 1) = hpI counts i ++ (if 0 < counts.getD i 0 then [⟨min (counts.getD i 0) mstW, i, [(i : Int)]⟩] else []) := by
  unfold hpI
  rw [List.range_succ, List.filter_append, List.map_append]
  congr 1
  by_cases h : 0 < counts.getD i 0
  · rw [if_pos h, List.filter_cons_of_pos (by simpa using h)]; rfl
  · rw [if_neg h, List.filter_cons_of_neg (by simpa using h)]; rfl
theorem outI_len (counts : List Int) (i : Nat) (h : i ≤ counts.length) : (outI counts i).length = counts.length := by
  unfold outI out0; simp; omega
theorem outI_zero (counts : List Int) : outI counts 0 = List.replicate counts.length (-1) := by simp [outI]
theorem outI_all (counts : List Int) : outI counts counts.length = out0 counts := by
  unfold outI
  rw [Nat.sub_self, List.replicate_zero, List.append_nil, List.take_of_length_le (by unfold out0; simp)]
theorem outI_succ (counts : List Int) (i : Nat) (h : i < counts.length) : outI counts (i + 1) = if 0 < counts.getD i 0 then (outI counts i).set i 0 else outI counts i := by
  have hol : (out0 counts).length = counts.length := by unfold out0; simp
  have hd : (out0 counts)[i]'(by omega) = if 0 < counts.getD i 0 then 0 else -1 := by
    unfold out0
    rw [List.getElem_map]
    simp [List.getD, List.getElem?_eq_getElem h]
  have hr : List.replicate (counts.length - i) (-1 : Int) = -1 :: List.replicate (counts.length - (i + 1)) (-1) := by
    rw [← List.replicate_succ]; congr 1; omega
  have ht : ((out0 counts).take i).length = i := by rw [List.length_take]; omega
  unfold outI
  rw [List.take_succ_eq_append_getElem (by omega), hd, hr]
  by_cases hp : 0 < counts.getD i 0
  · rw [if_pos hp, if_pos hp, List.set_append_right _ _ (by omega), ht, Nat.sub_self]
    simp
  · rw [if_neg hp, if_neg hp]; simp

structure DI (counts : List Int) (nx : Int) (l : List Hea) (out : List Int) : Prop where
  ok : HOk nx l
  nd : (symH l).Nodup
  rg : ∀ x ∈ symH l, 0 ≤ x ∧ x < counts.length
  sl : (symH l).length ≤ counts.length
  ol : out.length = counts.length
  fin : hufF l.length nx l out = dpsL counts
  nx0 : 0 ≤ nx ∧ nx + l.length ≤ 2 * counts.length
  ob : ∀ c, c < counts.length → -1 ≤ out.getD c 0 ∧ out.getD c 0 + l.length ≤ counts.length
theorem DI.start (counts : List Int) : DI counts counts.length (srtH (hps0 counts)) (out0 counts) := by
  have h1 := hpI_len counts counts.length
  rw [hpI_all] at h1
  have h2 : (srtH (hps0 counts)).length = (hps0 counts).length := (srtH_perm _).length_eq
  refine ⟨srt_ok counts, sym_nodup counts, fun x hx => ?_, ?_, by simp [out0], ?_, ⟨by omega, by omega⟩, fun c hc => ?_⟩
  · obtain ⟨c, rfl, h3, _⟩ := (sym_mem counts x).1 hx
    omega
  · rw [(symH_perm (srtH_perm _)).length_eq, symH0, List.length_map]
    exact Nat.le_trans (List.length_filter_le _ _) (by simp)
  · rw [h2]; rfl
  · have e : (out0 counts).getD c 0 = if 0 < counts.getD c 0 then 0 else -1 := by
      unfold out0
      simp [List.getD, List.getElem?_eq_getElem hc]
    rw [e]
    split <;> omega
theorem bmp_get {s out : List Int} {n c : Nat} (hn : s.Nodup) (hr : ∀ x ∈ s, 0 ≤ x ∧ x < n) (ho : out.length = n) : (bmpL out s).getD c 0 = out.getD c 0 + (if (c : Int) ∈ s then 1 else 0) := bmpL_at s out c hn (fun x hx => by rw [ho]; exact hr x hx)
theorem DI.step {counts : List Int} {nx : Int} {a b : Hea} {l : List Hea} {out : List Int} (h : DI counts nx (a :: b :: l) out) : DI counts (nx + 1) (insP (mrgH nx a b) l) (bmpL out (a.s ++ b.s)) := by
  obtain ⟨hok, hnd, hrg, hsl, hol, hfin, hnx, hob⟩ := h
  have e0 : symH (a :: b :: l) = (a.s ++ b.s) ++ symH l := by unfold symH; simp
  have hp : (symH (insP (mrgH nx a b) l)).Perm (symH (a :: b :: l)) := by rw [e0]; exact symH_ins _ _
  have hll := insP_len (mrgH nx a b) l
  simp only [List.length_cons] at *
  refine ⟨hok.step, hp.nodup_iff.2 hnd, fun x hx => hrg x (hp.mem_iff.1 hx), by rw [hp.length_eq]; exact hsl, by rw [bmpL_len]; exact hol, ?_, by omega, fun c hc => ?_⟩
  · rw [hll, ← hfin]; rfl
  · rw [e0] at hnd hrg
    rw [bmp_get ((List.nodup_append.1 hnd).1) (fun x hx => hrg x (List.mem_append_left _ hx)) hol]
    have := hob c hc
    split <;> omega

theorem depths_spec (counts : List Int) (hl : counts.length ≤ 100000) : PCalls Tryz.prog 38 [inl counts] (inl (dpsL counts)) := by
  have hR := Repeat_spec counts.length (by omega)
  have hrep : rowF counts.length (fun _ => -1) = (outI counts 0).map (IV.int .i64) := by
    rw [outI_zero, List.map_replicate]
    apply List.ext_getElem
    · rw [rowF_len]; simp
    · intro i h1 h2
      simp [rowF]
  rw [hrep] at hR
  have hS := SortH_M (hps0 counts) (by have := hpI_len counts counts.length; rw [hpI_all] at this; omega) (hps0_num counts)
  refine PCalls.of_aw Tryz.func38 rfl (by unfold Callable; kernel_rfl) (by kernel_rfl) (by simp [Tryz.ntmps38]) ?_; rw [Tryz.ntmps38, Tryz.results38]; (simp (disch := first | exact dq | fail) only [go_sem])
  (repeat' first
  | ((with_reducible first | refine Nx.go ?_ | refine rP ?_ | refine rR ?_ | refine And.intro ?_ ?_ | fail) <;> try (simp (disch := first | exact dq | fail) only [go_sem]))
  | ((with_reducible refine Sp.go ?_ ?_) <;> intro h <;> (try (simp (disch := first | exact dq | fail) only [go_sem] at h)) <;> try (simp (disch := first | exact dq | fail) only [go_sem, h])) | fail)
  ((first | with_reducible refine left_callMs [1] (hR) ?_ ?_ | with_reducible refine leftD_callMs [1] rfl (hR) ?_ ?_ | with_reducible refine leftD_callRs [1] (by decide) (hR) ?_ ?_); (· (simp (disch := first | exact dq | fail) only [go_sem])); try (simp (disch := first | exact dq | fail) only [go_sem]))
  (repeat' first
  | ((with_reducible first | refine Nx.go ?_ | refine rP ?_ | refine rR ?_ | refine And.intro ?_ ?_ | fail) <;> try (simp (disch := first | exact dq | fail) only [go_sem]))
  | ((with_reducible refine Sp.go ?_ ?_) <;> intro h <;> (try (simp (disch := first | exact dq | fail) only [go_sem] at h)) <;> try (simp (disch := first | exact dq | fail) only [go_sem, h])) | fail)
  refine aw_loop (α := Nat) (fun i => ⟨102, sl [(0, .iv (inl counts)), (3, .msl 0 0 counts.length counts.length), (4, .msl 1 0 (hpI counts i).length (hpI counts i).length), (18, .iv (inl counts)), (19, .iv (.int .i64 counts.length)), (20, .iv (.int .i64 i))], [.row true 3 1 ((outI counts i).map (IV.int .i64)), .row true 84 3 ((hpI counts i).map hpV)], 0⟩)
    (fun i => i ≤ counts.length) (fun i => counts.length - i) 0 (wk_by [2, 3] ?_) (Nat.zero_le _) ?_
  · (simp (disch := first | exact dq | fail) only [go_sem, hpI_zero])
  rintro i hi
  by_cases hlt : i < counts.length
  · have c0 : ((i : Int) < counts.length) := by omega
    have hol := outI_len counts i hi
    have hhl := hpI_len counts i
    by_cases hp : 0 < counts.getD i 0
    · have e1 := outI_succ counts i hlt
      have e2 := hpI_succ counts i
      rw [if_pos hp] at e1 e2
      have e3 : hpV ⟨min (counts.getD i 0) mstW, i, [(i : Int)]⟩ = .agg [.int .i64 (min (counts.getD i 0) 1152921504606846976), .int .i64 i, .sl 1 [.int .i64 i]] := rfl
      (repeat' first
  | ((with_reducible first | refine Nx.go ?_ | refine rP ?_ | refine rR ?_ | refine And.intro ?_ ?_ | fail) <;> try (simp (disch := first | exact dq | fail) only [go_sem, c0, hp, decide_true]))
  | ((with_reducible refine Sp.go ?_ ?_) <;> intro h <;> (try (simp (disch := first | exact dq | fail) only [go_sem] at h)) <;> try (simp (disch := first | exact dq | fail) only [go_sem, h, c0, hp, decide_true])) | fail)
      all_goals (try omega)
      refine ⟨i + 1, by omega, wk_by [0, 1] ?_, by omega⟩
      (simp (disch := first | exact dq | fail) only [go_sem, e1, e2, e3, List.map_set, List.map_append, List.map_cons, List.map_nil, List.length_append, List.length_cons, List.length_nil])
    · have e1 := outI_succ counts i hlt
      have e2 := hpI_succ counts i
      rw [if_neg hp] at e1 e2
      rw [List.append_nil] at e2
      (repeat' first
  | ((with_reducible first | refine Nx.go ?_ | refine rP ?_ | refine rR ?_ | refine And.intro ?_ ?_ | fail) <;> try (simp (disch := first | exact dq | fail) only [go_sem, c0, hp, decide_true, decide_false]))
  | ((with_reducible refine Sp.go ?_ ?_) <;> intro h <;> (try (simp (disch := first | exact dq | fail) only [go_sem] at h)) <;> try (simp (disch := first | exact dq | fail) only [go_sem, h, c0, hp, decide_true, decide_false])) | fail)
      all_goals (try omega)
      refine ⟨i + 1, by omega, wk_by [0, 1] ?_, by omega⟩
      (simp (disch := first | exact dq | fail) only [go_sem, e1, e2])
  · obtain rfl : i = counts.length := by omega
    have c0 : ¬ ((counts.length : Int) < counts.length) := by omega
    (repeat' first
  | ((with_reducible first | refine Nx.go ?_ | refine rP ?_ | refine rR ?_ | refine And.intro ?_ ?_ | fail) <;> try (simp (disch := first | exact dq | fail) only [go_sem, c0, decide_false, outI_all, hpI_all]))
  | ((with_reducible refine Sp.go ?_ ?_) <;> intro h <;> (try (simp (disch := first | exact dq | fail) only [go_sem] at h)) <;> try (simp (disch := first | exact dq | fail) only [go_sem, h, c0, decide_false, outI_all, hpI_all])) | fail)
    all_goals (try omega)
    ((first | with_reducible refine left_callMs [1] (hS) ?_ ?_ | with_reducible refine leftD_callMs [1] rfl (hS) ?_ ?_ | with_reducible refine leftD_callRs [1] (by decide) (hS) ?_ ?_); (· (simp (disch := first | exact dq | fail) only [go_sem])); try (simp (disch := first | exact dq | fail) only [go_sem]))
    (repeat' first
  | ((with_reducible first | refine Nx.go ?_ | refine rP ?_ | refine rR ?_ | refine And.intro ?_ ?_ | fail) <;> try (simp (disch := first | exact dq | fail) only [go_sem]))
  | ((with_reducible refine Sp.go ?_ ?_) <;> intro h <;> (try (simp (disch := first | exact dq | fail) only [go_sem] at h)) <;> try (simp (disch := first | exact dq | fail) only [go_sem, h])) | fail)
    have hsl : (srtH (hps0 counts)).length = (hps0 counts).length := (srtH_perm _).length_eq
    refine aw_loop (α := Int × List Hea × List Int) (fun z => ⟨102, sl [(3, .msl 0 0 counts.length counts.length), (4, .msl 1 0 z.2.1.length z.2.1.length), (7, .iv (.fnc 57)), (8, .iv (.int .i64 z.1))], [.row true 3 1 (z.2.2.map (IV.int .i64)), .row true 84 3 (z.2.1.map hpV)], 0⟩)
      (fun z => DI counts z.1 z.2.1 z.2.2) (fun z => z.2.1.length) ((counts.length : Int), srtH (hps0 counts), out0 counts) (wk_by [0, 1] ?_) (DI.start counts) ?_
    · (simp (disch := first | exact dq | fail) only [go_sem, hsl])
    rintro ⟨nx, l, out⟩ hI
    obtain ⟨hok, hnd, hrg, hsl, hol, hfin, hnx, hob⟩ := hI
    dsimp only at *
    match l, hok, hnd, hrg, hsl, hfin, hnx, hob with
    | [], _, _, _, _, hfin, _, _ =>
      have hfin : out = dpsL counts := hfin
      subst hfin
      have hto : ((dpsL counts).map (IV.int .i64)).take counts.length = (dpsL counts).map (IV.int .i64) := List.take_of_length_le (by rw [List.length_map]; omega)
      (repeat' first
  | ((with_reducible first | refine Nx.go ?_ | refine rP ?_ | refine rR ?_ | refine And.intro ?_ ?_ | fail) <;> try (simp (disch := first | exact dq | fail) only [go_sem, hol, hto]))
  | ((with_reducible refine Sp.go ?_ ?_) <;> intro h <;> (try (simp (disch := first | exact dq | fail) only [go_sem] at h)) <;> try (simp (disch := first | exact dq | fail) only [go_sem, h, hol, hto])) | fail)
    | [a], _, _, _, _, hfin, _, _ =>
      have hfin : out = dpsL counts := hfin
      subst hfin
      have hto : ((dpsL counts).map (IV.int .i64)).take counts.length = (dpsL counts).map (IV.int .i64) := List.take_of_length_le (by rw [List.length_map]; omega)
      (repeat' first
  | ((with_reducible first | refine Nx.go ?_ | refine rP ?_ | refine rR ?_ | refine And.intro ?_ ?_ | fail) <;> try (simp (disch := first | exact dq | fail) only [go_sem, hol, hto]))
  | ((with_reducible refine Sp.go ?_ ?_) <;> intro h <;> (try (simp (disch := first | exact dq | fail) only [go_sem] at h)) <;> try (simp (disch := first | exact dq | fail) only [go_sem, h, hol, hto])) | fail)
    | a :: b :: l, hok, hnd, hrg, hsl, hfin, hnx, hob =>
      have hI : DI counts nx (a :: b :: l) out := ⟨hok, hnd, hrg, hsl, hol, hfin, hnx, hob⟩
      have hst := hI.step
      have e0 : symH (a :: b :: l) = (a.s ++ b.s) ++ symH l := by unfold symH; simp
      have hll := insP_len (mrgH nx a b) l
      have hple := posH_le (mrgH nx a b) l
      rw [e0] at hnd hrg hsl
      have hsab : a.s.length + b.s.length ≤ counts.length := by simp only [List.length_append] at hsl; omega
      have hC := Concat_spec a.s b.s (by omega)
      have hSl : (a.s ++ b.s).length = a.s.length + b.s.length := List.length_append
      have hSn := (List.nodup_append.1 hnd).1
      have hSr : ∀ x ∈ a.s ++ b.s, 0 ≤ x ∧ x < counts.length := fun x hx => hrg x (List.mem_append_left _ hx)
      have hmm : mrgH nx a b = ⟨min (a.w + b.w) 1152921504606846976, nx, a.s ++ b.s⟩ := rfl
      have hwa := hok.cap a (by simp)
      have hwb := hok.cap b (by simp)
      have hea : hpV a = .agg [.int .i64 a.w, .int .i64 a.n, inl a.s] := rfl
      have heb : hpV b = .agg [.int .i64 b.w, .int .i64 b.n, inl b.s] := rfl
      unfold mstW at hwa hwb
      simp only [List.length_cons] at hnx hob
      simp only [List.map_cons, hea, heb, List.length_cons]
      have c1 : ¬ (((l.length : Int) + 1 + 1) < 2) := by omega
      (repeat' first
  | ((with_reducible first | refine Nx.go ?_ | (refine aw_regionD cwF mixed ?_ (dops_runF ?_); (· kernel_rfl)) | refine And.intro ?_ ?_ | fail) <;> try (simp (disch := first | exact dq | fail) only [go_sem, c1, decide_false]))
  | ((with_reducible refine Sp.go ?_ ?_) <;> intro h <;> (try (simp (disch := first | exact dq | fail) only [go_sem] at h)) <;> try (simp (disch := first | exact dq | fail) only [go_sem, h, c1, decide_false])) | fail)
      all_goals (try omega)
      ((with_reducible first | apply left_callf | apply leftD_callf | apply leftF_callf); (· with_reducible rfl); (· (simp (disch := first | exact dq | fail) only [go_sem]) <;> rfl); (· exact hC); try (simp (disch := first | exact dq | fail) only [go_sem]))
      (repeat' first
  | ((with_reducible first | refine Nx.go ?_ | refine rP ?_ | refine rR ?_ | refine And.intro ?_ ?_ | fail) <;> try (simp (disch := first | exact dq | fail) only [go_sem]))
  | ((with_reducible refine Sp.go ?_ ?_) <;> intro h <;> (try (simp (disch := first | exact dq | fail) only [go_sem] at h)) <;> try (simp (disch := first | exact dq | fail) only [go_sem, h])) | fail)
      all_goals (try omega)
      have hSi : ((a.s.length : Int) + b.s.length) = ((a.s ++ b.s).length : Int) := by rw [hSl]; omega
      have hb0 : bmpL out [] = out := rfl
      generalize a.s ++ b.s = S at *
      generalize min (a.w + b.w) 1152921504606846976 = W at *
      refine aw_loop (α := Nat) (fun j => ⟨102, sl [(3, .msl 0 0 counts.length counts.length), (4, .msl 1 0 (l.length + 1 + 1) (l.length + 1 + 1)), (7, .iv (.fnc 57)), (8, .iv (.int .i64 (nx + 1))), (9, .mp 2 0), (73, .iv (inl S)), (74, .iv (.int .i64 S.length)), (75, .iv (.int .i64 j))],
        [.row true 3 1 ((bmpL out (S.take j)).map (IV.int .i64)), .row true 84 3 (hpV a :: hpV b :: l.map hpV), .var 84 [.iv (.int .i64 W), .iv (.int .i64 nx), .iv (inl S)]], 0⟩)
        (fun j => j ≤ S.length) (fun j => S.length - j) 0 (wk_by [0, 1, 2] ?_) (Nat.zero_le _) ?_
      · (simp (disch := first | exact dq | fail) only [go_sem, hSi, hea, heb, List.take_zero, hb0])
      rintro j hj
      have hoj : (bmpL out (S.take j)).length = counts.length := by rw [bmpL_len]; exact hol
      by_cases hjl : j < S.length
      · have c2 : ((j : Int) < S.length) := by omega
        have hmem : S.getD j 0 ∈ S := by simp [List.getD, List.getElem?_eq_getElem hjl]
        have hr := hSr _ hmem
        obtain ⟨c, hc⟩ : ∃ c : Nat, S.getD j 0 = (c : Int) := ⟨(S.getD j 0).toNat, by omega⟩
        have hcl : c < counts.length := by omega
        have hbm := bmp_get (s := S.take j) (c := c) (hSn.sublist (List.take_sublist _ _)) (fun x hx => hSr x (List.mem_of_mem_take hx)) hol
        have hbd := hob c hcl
        have hnext : bmpL out (S.take (j + 1)) = (bmpL out (S.take j)).set c ((bmpL out (S.take j)).getD c 0 + 1) := by
          have hSj : S[j]'hjl = (c : Int) := by rw [← hc]; simp [List.getD, List.getElem?_eq_getElem hjl]
          rw [List.take_succ_eq_append_getElem hjl, hSj]
          unfold bmpL
          rw [List.foldl_append]; rfl
        have hbig : -1 ≤ (bmpL out (S.take j)).getD c 0 ∧ (bmpL out (S.take j)).getD c 0 ≤ counts.length := by
          rw [hbm]; split <;> omega
        generalize bmpL out (S.take j) = oj at *
        (repeat' first
  | ((with_reducible first | refine Nx.go ?_ | refine rP ?_ | refine rR ?_ | refine And.intro ?_ ?_ | fail) <;> try (simp (disch := first | exact dq | fail) only [go_sem, c2, decide_true, hc, hoj]))
  | ((with_reducible refine Sp.go ?_ ?_) <;> intro h <;> (try (simp (disch := first | exact dq | fail) only [go_sem] at h)) <;> try (simp (disch := first | exact dq | fail) only [go_sem, h, c2, decide_true, hc, hoj])) | fail)
        all_goals (try omega)
        refine ⟨j + 1, by omega, wk_by [0, 1, 2] ?_, by omega⟩
        (simp (disch := first | exact dq | fail) only [go_sem, hnext, List.map_set])
      · obtain rfl : j = S.length := by omega
        have c2 : ¬ ((S.length : Int) < S.length) := by omega
        have htl : S.take S.length = S := List.take_of_length_le (Nat.le_refl _)
        rw [htl] at *
        (iterate 8 all_goals try first
  | ((with_reducible first | refine Nx.go ?_ | refine rP ?_ | refine rR ?_ | refine And.intro ?_ ?_ | fail) <;> try (simp (disch := first | exact dq | fail) only [go_sem, c2, decide_false]))
  | ((with_reducible refine Sp.go ?_ ?_) <;> intro h <;> (try (simp (disch := first | exact dq | fail) only [go_sem] at h)) <;> try (simp (disch := first | exact dq | fail) only [go_sem, h, c2, decide_false])) | fail)
        all_goals (try omega)
        have hlt2 : (((l.length : Int) + 1 + 1).toNat - 2) = l.length := by omega
        have hdr : List.drop 2 (hpV a :: hpV b :: l.map hpV) = l.map hpV := rfl
        have htk : List.take l.length (l.map hpV) = l.map hpV := List.take_of_length_le (by rw [List.length_map]; omega)
        obtain ⟨v, hB⟩ := Bsf_spec l (mrgH nx a b) (by omega) ((List.pairwise_cons.1 (List.pairwise_cons.1 hok.srt).2).2)
        have hnew : hpV (mrgH nx a b) = .agg [.int .i64 W, .int .i64 nx, inl S] := by rw [hmm]; rfl
        have hhi := hst
        have hip : (insP (mrgH nx a b) l).map hpV = (l.map hpV).take (posH (mrgH nx a b) l) ++ [.agg [.int .i64 W, .int .i64 nx, inl S]] ++ (l.map hpV).drop (posH (mrgH nx a b) l) := by
          unfold insP
          rw [List.map_append, List.map_cons, hnew, List.map_take, List.map_drop]
          simp
        rw [hnew] at hB
        generalize posH (mrgH nx a b) l = p at *
        refine aw_wk (s' := ⟨102, sl [(3, .msl 0 0 counts.length counts.length), (4, .iv (.sl 3 (l.map hpV))), (7, .iv (.fnc 57)), (8, .iv (.int .i64 (nx + 1))), (9, .mp 1 0)],
          [.row true 3 1 ((bmpL out S).map (IV.int .i64)), .var 84 [.iv (.int .i64 W), .iv (.int .i64 nx), .iv (inl S)]], 0⟩) ((wk_frz (i := 4) (y := .sl 3 (l.map hpV)) (M' := [.row true 3 1 ((bmpL out S).map (IV.int .i64)), .row false 84 3 (hpV a :: hpV b :: l.map hpV), .var 84 [.iv (.int .i64 W), .iv (.int .i64 nx), .iv (inl S)]]) ?_).trans (wk_by [0, 2] ?_)) ?_
        · (simp (disch := first | exact dq | fail) only [go_sem, hlt2, hdr, htk])
          rw [if_pos (by omega)]
        · (simp (disch := first | exact dq | fail) only [go_sem])
        (repeat' first
  | ((with_reducible first | refine Nx.go ?_ | refine rP ?_ | refine rR ?_ | refine And.intro ?_ ?_ | fail) <;> try (simp (disch := first | exact dq | fail) only [go_sem]))
  | ((with_reducible refine Sp.go ?_ ?_) <;> intro h <;> (try (simp (disch := first | exact dq | fail) only [go_sem] at h)) <;> try (simp (disch := first | exact dq | fail) only [go_sem, h])) | fail)
        ((with_reducible first | apply left_callf | apply leftD_callf | apply leftF_callf); (· with_reducible rfl); (· (simp (disch := first | exact dq | fail) only [go_sem]) <;> rfl); (· exact hB); try (simp (disch := first | exact dq | fail) only [go_sem]))
        have hIns := Insert_all (l.map hpV) (.agg [.int .i64 W, .int .i64 nx, inl S]) p (by rw [List.length_map]; exact hple) (by rw [List.length_map]; omega)
        have hCl := Clone_hs (l.map hpV) (by rw [List.length_map]; omega)
        rw [List.length_map] at hIns hCl
        rw [← hip] at hIns
        refine aw_regionAny (fun _ => .w) mixed ?_
        refine aAny_pick 0 rfl (by kernel_rfl) (dops_run ?_)
        (simp (disch := first | exact dq | fail) only [go_sem])
        refine aAny_pick 2 rfl (by kernel_rfl) (dops_run ?_)
        (simp (disch := first | exact dq | fail) only [go_sem])
        refine aAny_two 1 3 rfl rfl (by kernel_rfl) (dops_run ?_) (dops_run ?_)
        · (simp (disch := first | exact dq | fail) only [go_sem])
          ((first | with_reducible refine left_callMs [] (hCl) ?_ ?_ | with_reducible refine leftD_callMs [] rfl (hCl) ?_ ?_ | with_reducible refine leftD_callRs [] (by decide) (hCl) ?_ ?_); (· (simp (disch := first | exact dq | fail) only [go_sem])); try (simp (disch := first | exact dq | fail) only [go_sem]))
          refine aAny_pick 3 rfl (by kernel_rfl) (dops_run ?_)
          (simp (disch := first | exact dq | fail) only [go_sem])
          refine aAny_pick 4 rfl (by kernel_rfl) (dops_run ?_)
          (simp (disch := first | exact dq | fail) only [go_sem])
          refine aAny_pick 5 rfl (by kernel_rfl) (dops_run ?_)
          (simp (disch := first | exact dq | fail) only [go_sem])
          ((first | with_reducible refine left_callMs [2, 3] (hIns) ?_ ?_ | with_reducible refine leftD_callMs [2, 3] rfl (hIns) ?_ ?_ | with_reducible refine leftD_callRs [2, 3] (by decide) (hIns) ?_ ?_); (· (simp (disch := first | exact dq | fail) only [go_sem])); try (simp (disch := first | exact dq | fail) only [go_sem]))
          refine aAny_pick 6 rfl (by kernel_rfl) (dops_run ?_)
          (simp (disch := first | exact dq | fail) only [go_sem])
          refine aAny_end (by kernel_rfl) ⟨rfl, ((nx + 1, insP (mrgH nx a b) l, bmpL out S) : Int × List Hea × List Int), hst, wk_by [0, 2] ?_, by dsimp only; omega⟩
          (simp (disch := first | exact dq | fail) only [go_sem, hll])
        · (simp (disch := first | exact dq | fail) only [go_sem])
          refine aAny_two 1 4 rfl rfl (by kernel_rfl) (dops_run ?_) (dops_run ?_)
          · (simp (disch := first | exact dq | fail) only [go_sem])
            ((first | with_reducible refine left_callMs [] (hCl) ?_ ?_ | with_reducible refine leftD_callMs [] rfl (hCl) ?_ ?_ | with_reducible refine leftD_callRs [] (by decide) (hCl) ?_ ?_); (· (simp (disch := first | exact dq | fail) only [go_sem])); try (simp (disch := first | exact dq | fail) only [go_sem]))
            refine aAny_pick 4 rfl (by kernel_rfl) (dops_run ?_)
            (simp (disch := first | exact dq | fail) only [go_sem])
            refine aAny_pick 5 rfl (by kernel_rfl) (dops_run ?_)
            (simp (disch := first | exact dq | fail) only [go_sem])
            ((first | with_reducible refine left_callMs [2, 3] (hIns) ?_ ?_ | with_reducible refine leftD_callMs [2, 3] rfl (hIns) ?_ ?_ | with_reducible refine leftD_callRs [2, 3] (by decide) (hIns) ?_ ?_); (· (simp (disch := first | exact dq | fail) only [go_sem])); try (simp (disch := first | exact dq | fail) only [go_sem]))
            refine aAny_pick 6 rfl (by kernel_rfl) (dops_run ?_)
            (simp (disch := first | exact dq | fail) only [go_sem])
            refine aAny_end (by kernel_rfl) ⟨rfl, ((nx + 1, insP (mrgH nx a b) l, bmpL out S) : Int × List Hea × List Int), hst, wk_by [0, 2] ?_, by dsimp only; omega⟩
            (simp (disch := first | exact dq | fail) only [go_sem, hll])
          · (simp (disch := first | exact dq | fail) only [go_sem])
            refine aAny_pick 1 rfl (by kernel_rfl) (dops_run ?_)
            (simp (disch := first | exact dq | fail) only [go_sem])
            ((first | with_reducible refine left_callMs [] (hCl) ?_ ?_ | with_reducible refine leftD_callMs [] rfl (hCl) ?_ ?_ | with_reducible refine leftD_callRs [] (by decide) (hCl) ?_ ?_); (· (simp (disch := first | exact dq | fail) only [go_sem])); try (simp (disch := first | exact dq | fail) only [go_sem]))
            refine aAny_pick 5 rfl (by kernel_rfl) (dops_run ?_)
            (simp (disch := first | exact dq | fail) only [go_sem])
            ((first | with_reducible refine left_callMs [3, 2] (hIns) ?_ ?_ | with_reducible refine leftD_callMs [3, 2] rfl (hIns) ?_ ?_ | with_reducible refine leftD_callRs [3, 2] (by decide) (hIns) ?_ ?_); (· (simp (disch := first | exact dq | fail) only [go_sem])); try (simp (disch := first | exact dq | fail) only [go_sem]))
            refine aAny_pick 6 rfl (by kernel_rfl) (dops_run ?_)
            (simp (disch := first | exact dq | fail) only [go_sem])
            refine aAny_end (by kernel_rfl) ⟨rfl, ((nx + 1, insP (mrgH nx a b) l, bmpL out S) : Int × List Hea × List Int), hst, wk_by [0, 3] ?_, by dsimp only; omega⟩
            (simp (disch := first | exact dq | fail) only [go_sem, hll])

end Go.Proofs.YtpjncojljamacaaGreat.AM
