
/- Chapter 4: New. No condition but lengths that fit. -/
import Derived.Test.YtkfjldkememadaaV5
set_option linter.unusedVariables false
set_option linter.unusedSimpArgs false
set_option maxRecDepth 20000
namespace Go.Proofs.Ytkfjldkememadaa.AM
open Go Go.RowKit

section
variable {P : Program} {ops : List Oper} {o : Oper} {s : St} {cw : Oper → Cls} {Q : St → Prop} {rest : List Oper}
def cwG (o : Oper) : Cls := match o.dst with
  | some k => if k = 1000002 then .w else .r
  | none => .r
theorem leftF_callRs {f : Nat} {xs : List AV} {Ml : List MO} {r : AV} (l : List Nat) (hcp : cls0 cw o ≠ .p) (h : MCalls P f xs Ml r Ml) (hc : callMK o l f xs Ml s)
    (hk : runF P ops rest (fun s l => leftF P cw ops Q s l) (s.put o.dst (ren (sg l s.M.length) r))) : leftF P cw ops Q s (o :: rest) := by
  unfold callMK at hc
  split at hc
  · rename_i c ho
    split at hc
    · rename_i x hx
      split at hc
      · rename_i g caps hg
        obtain ⟨rfl, h1, h2, h3⟩ := hc
        exact fun hw => ⟨_, _, .callR _ hcp s _ caps c x l xs Ml r hw ho hx hg h1 (Part.ofR h2 h3) h, dops_runF hk⟩
      · exact hc.elim
    · exact hc.elim
  · exact hc.elim
end
@[go_sem ↓] theorem ivn_rank1 (l : List Bool) : ivn (.iv (rankV l)) = some (rankV l) := rfl
@[go_sem high] theorem ivn_rank2 (l : List Bool) : ivn (.iv (rankV l)) = some (rankV l) := rfl
def rowsOf (l : List Int) (W : Nat) : List (List Bool) := (List.range W).map fun k => rowK (wK l W k) (bitN W (sy l) k) l.length
theorem rowsOf_len (l : List Int) (W : Nat) : (rowsOf l W).length = W := by simp [rowsOf]
theorem rowsOf_ok {l : List Int} {W : Nat} (h : ∀ x ∈ l, 0 ≤ x ∧ x.toNat < 2 ^ W) : WOk l W (rowsOf l W) :=
  ⟨rowsOf_len l W, h, fun k hk => by simp [rowsOf, List.getD, hk]; rfl⟩
theorem wrongW (size c : Int) : MCalls Try.prog 36 [.iv (.int .i64 c), .mp 0 0] [.var 3 [.iv (.int .i64 size)]] (.iv (.bool (offK size c))) [.var 3 [.iv (.int .i64 size)]] := by
  unfold offK
  refine MCalls.of_aw Try.func36 rfl (by unfold Callable; kernel_rfl) (by kernel_rfl) (by simp [Try.ntmps36]) (by (simp (disch := first | exact dq | fail) only [go_sem])) ?_; rw [Try.ntmps36, Try.results36]; (simp (disch := first | exact dq | fail) only [go_sem])
  (repeat' (first
    | ((first | with_reducible (first | refine aw_seq ?_ | refine aw_region (aops_run ?_)) | (with_reducible refine aw_regionD (fun _ => .p) mixed ?_ (dops_run ?_); (· kernel_rfl)) | (with_reducible refine aw_regionD (fun _ => .r) mixed ?_ (dops_run ?_); (· kernel_rfl)) | with_reducible (first | refine aw_condK ?_ | refine aw_skip ?_ | refine aw_ret ?_ | refine aw_exit ?_ | refine aw_label ?_ | refine aw_block ?_ | refine aw_scope ?_ | refine And.intro ?_ ?_)) <;> (try (simp (disch := first | exact dq | fail) only [go_sem])))
    | (with_reducible (first | refine wantK_split (fun h => ?_) (fun h => ?_) | refine condK_split (fun h => ?_) (fun h => ?_) | refine pickV_split (fun h => ?_) (fun h => ?_)) <;> (try (simp (disch := first | exact dq | fail) only [go_sem] at h)) <;> (try (simp (disch := first | exact dq | fail) only [go_sem, h])))))
  all_goals (refine fin_k [0] ?_; (simp (disch := first | exact dq | fail) only [go_sem]))
  all_goals (try (simp; omega))
theorem CloneA (l : List Int) (hl : l.length ≤ 1000000) : PCalls Try.prog 38 [inl l] (inl l) := by
  by_cases h : l = []
  · subst h; exact Clone_e
  · exact Clone_spec l (List.length_pos_iff.2 h) hl
theorem width_spec (size : Int) (h1 : 1 ≤ size) (h2 : size ≤ 65536) : PCalls Try.prog 39 [.int .i64 size] (.int .i64 (widN (size - 1))) := by
  have h := IWidth_spec (size - 1) ⟨by omega, by omega⟩
  refine PCalls.of_aw Try.func39 rfl (by unfold Callable; kernel_rfl) (by kernel_rfl) (by simp [Try.ntmps39]) ?_; rw [Try.ntmps39, Try.results39]; (simp (disch := first | exact dq | fail) only [go_sem])
  (repeat' (first
    | ((first | with_reducible (first | refine aw_seq ?_ | refine aw_region (aops_run ?_)) | (with_reducible refine aw_regionD (fun _ => .p) mixed ?_ (dops_run ?_); (· kernel_rfl)) | (with_reducible refine aw_regionD (fun _ => .r) mixed ?_ (dops_run ?_); (· kernel_rfl)) | with_reducible (first | refine aw_condK ?_ | refine aw_skip ?_ | refine aw_ret ?_ | refine aw_exit ?_ | refine aw_label ?_ | refine aw_block ?_ | refine aw_scope ?_ | refine And.intro ?_ ?_)) <;> (try (simp (disch := first | exact dq | fail) only [go_sem])))
    | (with_reducible (first | refine wantK_split (fun h => ?_) (fun h => ?_) | refine condK_split (fun h => ?_) (fun h => ?_) | refine pickV_split (fun h => ?_) (fun h => ?_)) <;> (try (simp (disch := first | exact dq | fail) only [go_sem] at h)) <;> (try (simp (disch := first | exact dq | fail) only [go_sem, h])))))
  all_goals (try omega)
  ((first | with_reducible apply left_callf | with_reducible apply leftD_callf | with_reducible apply leftF_callf); (· with_reducible rfl); (· (simp (disch := first | exact dq | fail) only [go_sem]) <;> rfl); (· exact h); try (simp (disch := first | exact dq | fail) only [go_sem]))
  (repeat' (first
    | ((first | with_reducible (first | refine aw_seq ?_ | refine aw_region (aops_run ?_)) | (with_reducible refine aw_regionD (fun _ => .p) mixed ?_ (dops_run ?_); (· kernel_rfl)) | (with_reducible refine aw_regionD (fun _ => .r) mixed ?_ (dops_run ?_); (· kernel_rfl)) | with_reducible (first | refine aw_condK ?_ | refine aw_skip ?_ | refine aw_ret ?_ | refine aw_exit ?_ | refine aw_label ?_ | refine aw_block ?_ | refine aw_scope ?_ | refine And.intro ?_ ?_)) <;> (try (simp (disch := first | exact dq | fail) only [go_sem])))
    | (with_reducible (first | refine wantK_split (fun h => ?_) (fun h => ?_) | refine condK_split (fun h => ?_) (fun h => ?_) | refine pickV_split (fun h => ?_) (fun h => ?_)) <;> (try (simp (disch := first | exact dq | fail) only [go_sem] at h)) <;> (try (simp (disch := first | exact dq | fail) only [go_sem, h])))))
theorem bit_b (c d : Nat) : decide (((c / 2 ^ d % 2 : Nat) : Int) = 1) = decide (c / 2 ^ d % 2 = 1) := by
  apply decide_eq_decide.2; omega
theorem lvl_bits (l : List Int) (W k : Nat) : (List.range l.length).map (fun p => decide (sy (lvl l W k) p / 2 ^ (W - 1 - k) % 2 = 1)) = rowK (wK l W k) (bitN W (sy l) k) l.length := by
  unfold rowK
  refine List.map_congr_left (fun p hp => ?_)
  have hp' := List.mem_range.1 hp
  obtain ⟨q, hq, _, _⟩ := stabG_who (wK l W k) hp'
  rw [hq, Int.toNat_natCast]
  unfold bitN
  have := lvl_at l W k hp' hq
  unfold sy
  rw [this]
theorem rows_take (l : List Int) (W : Nat) {k : Nat} (h : k < W) : (rowsOf l W).take (k + 1) = (rowsOf l W).take k ++ [rowK (wK l W k) (bitN W (sy l) k) l.length] := by
  unfold rowsOf
  rw [List.take_add_one]
  congr 1
  simp [h]
set_option maxHeartbeats 4000000 in
theorem New_ok (l : List Int) (size : Int) (hl : l.length ≤ 500000) (h1 : 1 ≤ size) (h2 : size ≤ 65536) (hs : ∀ x ∈ l, 0 ≤ x ∧ x < size) : PCalls Try.prog 12 [inl l, .int .i64 size] (.tup [waveV l.length size (rowsOf l (widN (size - 1))), .int .i64 0]) := by
  have hC := ContainsFunc_spec 36 3 (.int .i64 size) (offK size) (fun n _ => wrongW size n) l (by omega) (fun n hn => by have := hs n hn; exact ⟨by omega, by omega⟩)
  rw [show l.any (offK size) = false by
    rw [List.any_eq_false]
    intro x hx
    have := hs x hx
    unfold offK
    simp; omega] at hC
  have hw := width_spec size h1 h2
  have hCl := CloneA l (by omega)
  have c1 : ¬ size < 1 := by omega
  have c2 : ¬ size > 65536 := by omega
  have hW0 := widN_fits (n := size - 1) (by omega) (by omega) (w := 17) (by decide)
  have hWle : widN (size - 1) ≤ 17 := hW0.2 (by omega)
  have hWf := (widN_fits (n := size - 1) (by omega) (by omega) (w := widN (size - 1)) (by omega)).1 (Nat.le_refl _)
  have hs2 : ∀ x ∈ l, 0 ≤ x ∧ x.toNat < 2 ^ widN (size - 1) := fun x hx => by
    have := hs x hx
    exact ⟨this.1, by omega⟩
  generalize widN (size - 1) = W at *
  clear hW0 hWf
  have hrl := rowsOf_len l W
  have hlz := lvl_zero l W
  have hlw : (rowsOf l W).take W = rowsOf l W := List.take_of_length_le (by omega)
  have hcell : ∀ k, ∀ x ∈ lvl l W k, 0 ≤ x ∧ x.toNat < 4611686018427387904 := fun k x hx => by
    have : ∃ p, p < l.length ∧ x = l.getD p 0 := by
      unfold lvl pickL at hx
      obtain ⟨y, hy, rfl⟩ := List.mem_map.1 hx
      obtain ⟨p, hp, rfl⟩ := mem_idL.1 ((stab_perm _ _).mem_iff.1 hy)
      exact ⟨p, hp, by simp⟩
    obtain ⟨p, hp, rfl⟩ := this
    have := hs _ (getD_mem hp)
    omega
  refine PCalls.of_aw Try.func12 rfl (by unfold Callable; kernel_rfl) (by kernel_rfl) (by simp [Try.ntmps12]) ?_; rw [Try.ntmps12, Try.results12]; (simp (maxSteps := 1000000) (disch := first | exact dq | fail) only [go_sem, waveV])
  (repeat' (first
    | ((first | with_reducible (first | refine aw_seq ?_ | refine aw_region (aops_run ?_)) | (with_reducible refine aw_regionD (fun _ => .p) mixed ?_ (dops_run ?_); (· kernel_rfl)) | (with_reducible refine aw_regionD (fun _ => .r) mixed ?_ (dops_run ?_); (· kernel_rfl)) | with_reducible (first | refine aw_condK ?_ | refine aw_skip ?_ | refine aw_ret ?_ | refine aw_exit ?_ | refine aw_label ?_ | refine aw_block ?_ | refine aw_scope ?_ | refine And.intro ?_ ?_)) <;> (try (simp (maxSteps := 1000000) (disch := first | exact dq | fail) only [go_sem, c1, c2, decide_false])))
    | (with_reducible (first | refine wantK_split (fun h => ?_) (fun h => ?_) | refine condK_split (fun h => ?_) (fun h => ?_) | refine pickV_split (fun h => ?_) (fun h => ?_)) <;> (try (simp (maxSteps := 1000000) (disch := first | exact dq | fail) only [go_sem] at h)) <;> (try (simp (maxSteps := 1000000) (disch := first | exact dq | fail) only [go_sem, h, c1, c2, decide_false])))))
  all_goals (try omega)
  ((first | with_reducible refine left_callMs [0] (hC) ?_ ?_ | with_reducible refine leftD_callMs [0] rfl (hC) ?_ ?_ | with_reducible refine leftD_callRs [0] (by decide) (hC) ?_ ?_); (· (simp (maxSteps := 1000000) (disch := first | exact dq | fail) only [go_sem])); try (simp (maxSteps := 1000000) (disch := first | exact dq | fail) only [go_sem]))
  (repeat' (first
    | ((first | with_reducible (first | refine aw_seq ?_ | refine aw_region (aops_run ?_)) | (with_reducible refine aw_regionD (fun _ => .p) mixed ?_ (dops_run ?_); (· kernel_rfl)) | (with_reducible refine aw_regionD (fun _ => .r) mixed ?_ (dops_run ?_); (· kernel_rfl)) | with_reducible (first | refine aw_condK ?_ | refine aw_skip ?_ | refine aw_ret ?_ | refine aw_exit ?_ | refine aw_label ?_ | refine aw_block ?_ | refine aw_scope ?_ | refine And.intro ?_ ?_)) <;> (try (simp (maxSteps := 1000000) (disch := first | exact dq | fail) only [go_sem])))
    | (with_reducible (first | refine wantK_split (fun h => ?_) (fun h => ?_) | refine condK_split (fun h => ?_) (fun h => ?_) | refine pickV_split (fun h => ?_) (fun h => ?_)) <;> (try (simp (maxSteps := 1000000) (disch := first | exact dq | fail) only [go_sem] at h)) <;> (try (simp (maxSteps := 1000000) (disch := first | exact dq | fail) only [go_sem, h])))))
  ((first | with_reducible apply left_callf | with_reducible apply leftD_callf | with_reducible apply leftF_callf); (· with_reducible rfl); (· (simp (maxSteps := 1000000) (disch := first | exact dq | fail) only [go_sem]) <;> rfl); (· exact hCl); try (simp (maxSteps := 1000000) (disch := first | exact dq | fail) only [go_sem]))
  (repeat' (first
    | ((first | with_reducible (first | refine aw_seq ?_ | refine aw_region (aops_run ?_)) | (with_reducible refine aw_regionD (fun _ => .p) mixed ?_ (dops_run ?_); (· kernel_rfl)) | (with_reducible refine aw_regionD (fun _ => .r) mixed ?_ (dops_run ?_); (· kernel_rfl)) | with_reducible (first | refine aw_condK ?_ | refine aw_skip ?_ | refine aw_ret ?_ | refine aw_exit ?_ | refine aw_label ?_ | refine aw_block ?_ | refine aw_scope ?_ | refine And.intro ?_ ?_)) <;> (try (simp (maxSteps := 1000000) (disch := first | exact dq | fail) only [go_sem])))
    | (with_reducible (first | refine wantK_split (fun h => ?_) (fun h => ?_) | refine condK_split (fun h => ?_) (fun h => ?_) | refine pickV_split (fun h => ?_) (fun h => ?_)) <;> (try (simp (maxSteps := 1000000) (disch := first | exact dq | fail) only [go_sem] at h)) <;> (try (simp (maxSteps := 1000000) (disch := first | exact dq | fail) only [go_sem, h])))))
  ((first | with_reducible apply left_callf | with_reducible apply leftD_callf | with_reducible apply leftF_callf); (· with_reducible rfl); (· (simp (maxSteps := 1000000) (disch := first | exact dq | fail) only [go_sem]) <;> rfl); (· exact hw); try (simp (maxSteps := 1000000) (disch := first | exact dq | fail) only [go_sem]))
  (repeat' (first
    | ((first | with_reducible (first | refine aw_seq ?_ | refine aw_region (aops_run ?_)) | (with_reducible refine aw_regionD (fun _ => .p) mixed ?_ (dops_run ?_); (· kernel_rfl)) | (with_reducible refine aw_regionD (fun _ => .r) mixed ?_ (dops_run ?_); (· kernel_rfl)) | with_reducible (first | refine aw_condK ?_ | refine aw_skip ?_ | refine aw_ret ?_ | refine aw_exit ?_ | refine aw_label ?_ | refine aw_block ?_ | refine aw_scope ?_ | refine And.intro ?_ ?_)) <;> (try (simp (maxSteps := 1000000) (disch := first | exact dq | fail) only [go_sem])))
    | (with_reducible (first | refine wantK_split (fun h => ?_) (fun h => ?_) | refine condK_split (fun h => ?_) (fun h => ?_) | refine pickV_split (fun h => ?_) (fun h => ?_)) <;> (try (simp (maxSteps := 1000000) (disch := first | exact dq | fail) only [go_sem] at h)) <;> (try (simp (maxSteps := 1000000) (disch := first | exact dq | fail) only [go_sem, h])))))
  all_goals (try omega)
  refine aw_loop (α := Nat) (fun k => ⟨66, sl [(4, .mp 0 0), (5, .iv (.int .i64 0)), (7, .mp 1 0), (8, .iv (inl (lvl l W k))), (9, .iv (.int .i64 (W - 1 - k)))],
      [.var 29 [.iv (.int .i64 0), .iv (.int .i64 0), .nilsl], .var 29 [.iv (.int .i64 l.length), .iv (.int .i64 size), .msl 2 0 k k], .row true 69 7 (((rowsOf l W).take k).map rankV)], 0⟩)
    (fun k => k ≤ W) (fun k => W - k) 0 ((wk_ownc 69 7 2 2 rfl rfl).trans (wk_by [1, 2, 3] ?_)) (by omega) ?_
  · (simp (maxSteps := 1000000) (disch := first | exact dq | fail) only [go_sem, hlz])
    rw [Int.sub_zero]
  rintro k hk
  have hlk := lvl_len l W k
  have hck := hcell k
  by_cases h : k < W
  · have hc : (W : Int) - 1 - k ≥ 0 := by omega
    have hd : (W : Int) - 1 - k = ((W - 1 - k : Nat) : Int) := by omega
    have hP := parted_spec (lvl l W k) (W - 1 - k) (by omega) (by omega) hck
    rw [lvl_succ h hs2] at hP
    have hbits := lvl_bits l W k
    have hrt := rows_take l W h
    have hB := RNew_spec (rowK (wK l W k) (bitN W (sy l) k) l.length) (by rw [rowK_len]; omega)
    have hb0 := Bits_spec (rowK (wK l W k) (bitN W (sy l) k) l.length) (by rw [rowK_len]; omega)
    have hbl := rowK_len (wK l W k) (bitN W (sy l) k) l.length
    have hbi : ∀ i, i < l.length → (rowK (wK l W k) (bitN W (sy l) k) l.length).getD i false = decide (sy (lvl l W k) i / 2 ^ (W - 1 - k) % 2 = 1) := fun i hi => by
      rw [← hbits]; simp [List.getD, hi]
    clear hbits
    have hnn : ∀ i, (lvl l W k).getD i 0 = ((sy (lvl l W k) i : Nat) : Int) := fun i => by
      have := Sym.at_ (l := lvl l W k) hck i
      unfold sy; omega
    have hsm : ∀ i, sy (lvl l W k) i < 4611686018427387904 := fun i => (Sym.at_ (l := lvl l W k) hck i).2
    have htk : ((rowsOf l W).take k).length = k := by rw [List.length_take]; omega
    generalize rowK (wK l W k) (bitN W (sy l) k) l.length = B at *
    generalize hRR : lvl l W (k + 1) = R' at *
    generalize lvl l W k = R at *
    rw [hd]
    clear hd
    generalize hdd : W - 1 - k = d at *
    have hd1 : ((d : Nat) : Int) - 1 = (W : Int) - 1 - ((k + 1 : Nat) : Int) := by omega
    have hc : (d : Int) ≥ 0 := by omega
    (repeat' (first
    | ((first | with_reducible (first | refine aw_seq ?_ | refine aw_region (aops_run ?_)) | (with_reducible refine aw_regionD (fun _ => .p) mixed ?_ (dops_run ?_); (· kernel_rfl)) | (with_reducible refine aw_regionD (fun _ => .r) mixed ?_ (dops_run ?_); (· kernel_rfl)) | with_reducible (first | refine aw_condK ?_ | refine aw_skip ?_ | refine aw_ret ?_ | refine aw_exit ?_ | refine aw_label ?_ | refine aw_block ?_ | refine aw_scope ?_ | refine And.intro ?_ ?_)) <;> (try (simp (maxSteps := 1000000) (disch := first | exact dq | fail) only [go_sem, hc, decide_true])))
    | (with_reducible (first | refine wantK_split (fun h => ?_) (fun h => ?_) | refine condK_split (fun h => ?_) (fun h => ?_) | refine pickV_split (fun h => ?_) (fun h => ?_)) <;> (try (simp (maxSteps := 1000000) (disch := first | exact dq | fail) only [go_sem] at h)) <;> (try (simp (maxSteps := 1000000) (disch := first | exact dq | fail) only [go_sem, h, hc, decide_true])))))
    all_goals (try omega)
    ((first | with_reducible refine left_callMs [] (New_spec) ?_ ?_ | with_reducible refine leftD_callMs [] rfl (New_spec) ?_ ?_ | with_reducible refine leftD_callRs [] (by decide) (New_spec) ?_ ?_); (· (simp (maxSteps := 1000000) (disch := first | exact dq | fail) only [go_sem])); try (simp (maxSteps := 1000000) (disch := first | exact dq | fail) only [go_sem]))
    (repeat' (first
    | ((first | with_reducible (first | refine aw_seq ?_ | refine aw_region (aops_run ?_)) | (with_reducible refine aw_regionD (fun _ => .p) mixed ?_ (dops_run ?_); (· kernel_rfl)) | (with_reducible refine aw_regionD (fun _ => .r) mixed ?_ (dops_run ?_); (· kernel_rfl)) | with_reducible (first | refine aw_condK ?_ | refine aw_skip ?_ | refine aw_ret ?_ | refine aw_exit ?_ | refine aw_label ?_ | refine aw_block ?_ | refine aw_scope ?_ | refine And.intro ?_ ?_)) <;> (try (simp (maxSteps := 1000000) (disch := first | exact dq | fail) only [go_sem])))
    | (with_reducible (first | refine wantK_split (fun h => ?_) (fun h => ?_) | refine condK_split (fun h => ?_) (fun h => ?_) | refine pickV_split (fun h => ?_) (fun h => ?_)) <;> (try (simp (maxSteps := 1000000) (disch := first | exact dq | fail) only [go_sem] at h)) <;> (try (simp (maxSteps := 1000000) (disch := first | exact dq | fail) only [go_sem, h])))))
    refine aw_loop (α := Nat) (fun i => ⟨66, sl [(4, .mp 0 0), (5, .iv (.int .i64 0)), (7, .mp 1 0), (8, .iv (inl R)), (9, .iv (.int .i64 d)), (10, .mp 3 0), (40, .iv (inl R)), (41, .iv (.int .i64 l.length)), (42, .iv (.int .i64 i))],
        [.var 29 [.iv (.int .i64 0), .iv (.int .i64 0), .nilsl], .var 29 [.iv (.int .i64 l.length), .iv (.int .i64 size), .msl 2 0 k k], .row true 69 7 (((rowsOf l W).take k).map rankV),
          .var 85 [.iv (.int .i64 i), .msl 4 0 ((i + 63) / 64) ((i + 63) / 64)], .row true 86 1 (ws (B.take i))], 0⟩)
      (fun i => i ≤ l.length) (fun i => l.length - i) 0 (wk_by [0, 1, 2, 3, 4] ?_) (by omega) ?_
    · (simp (maxSteps := 1000000) (disch := first | exact dq | fail) only [go_sem, hlk])
      try exact ⟨rfl, rfl⟩
    rintro i hi
    by_cases g : i < l.length
    · have hcc : (i : Int) < l.length := by omega
      have htl : (B.take i).length = i := by rw [List.length_take]; omega
      have hsn : B.take i ++ [B.getD i false] = B.take (i + 1) := by
        rw [List.take_add_one]
        simp [List.getD, List.getElem?_eq_getElem (show i < B.length by omega)]
      have hA := Add_spec (B.take i) (B.getD i false) (by omega)
      rw [hsn] at hA
      unfold bldM at hA
      rw [htl, show (B.take (i + 1)).length = i + 1 by rw [List.length_take]; omega, hbi i g, ← bit_b] at hA
      have hsh := shr_bit (sy R i) d (by omega) (hsm i)
      have hgi := hnn i
      (repeat' (first
    | ((first | with_reducible (first | refine aw_seq ?_ | refine aw_region (aops_run ?_)) | (with_reducible refine aw_regionD (fun _ => .p) mixed ?_ (dops_run ?_); (· kernel_rfl)) | (with_reducible refine aw_regionD (fun _ => .r) mixed ?_ (dops_run ?_); (· kernel_rfl)) | with_reducible (first | refine aw_condK ?_ | refine aw_skip ?_ | refine aw_ret ?_ | refine aw_exit ?_ | refine aw_label ?_ | refine aw_block ?_ | refine aw_scope ?_ | refine And.intro ?_ ?_)) <;> (try (simp (maxSteps := 1000000) (disch := first | exact dq | fail) only [go_sem, hcc, hlk, hgi, hsh, decide_true])))
    | (with_reducible (first | refine wantK_split (fun h => ?_) (fun h => ?_) | refine condK_split (fun h => ?_) (fun h => ?_) | refine pickV_split (fun h => ?_) (fun h => ?_)) <;> (try (simp (maxSteps := 1000000) (disch := first | exact dq | fail) only [go_sem] at h)) <;> (try (simp (maxSteps := 1000000) (disch := first | exact dq | fail) only [go_sem, h, hcc, hlk, hgi, hsh, decide_true])))))
      all_goals (try omega)
      ((first | with_reducible refine left_callMs [3, 4] (hA) ?_ ?_ | with_reducible refine leftD_callMs [3, 4] rfl (hA) ?_ ?_ | with_reducible refine leftD_callRs [3, 4] (by decide) (hA) ?_ ?_); (· (simp (maxSteps := 1000000) (disch := first | exact dq | fail) only [go_sem])); try (simp (maxSteps := 1000000) (disch := first | exact dq | fail) only [go_sem]))
      (repeat' (first
    | ((first | with_reducible (first | refine aw_seq ?_ | refine aw_region (aops_run ?_)) | (with_reducible refine aw_regionD (fun _ => .p) mixed ?_ (dops_run ?_); (· kernel_rfl)) | (with_reducible refine aw_regionD (fun _ => .r) mixed ?_ (dops_run ?_); (· kernel_rfl)) | with_reducible (first | refine aw_condK ?_ | refine aw_skip ?_ | refine aw_ret ?_ | refine aw_exit ?_ | refine aw_label ?_ | refine aw_block ?_ | refine aw_scope ?_ | refine And.intro ?_ ?_)) <;> (try (simp (maxSteps := 1000000) (disch := first | exact dq | fail) only [go_sem])))
    | (with_reducible (first | refine wantK_split (fun h => ?_) (fun h => ?_) | refine condK_split (fun h => ?_) (fun h => ?_) | refine pickV_split (fun h => ?_) (fun h => ?_)) <;> (try (simp (maxSteps := 1000000) (disch := first | exact dq | fail) only [go_sem] at h)) <;> (try (simp (maxSteps := 1000000) (disch := first | exact dq | fail) only [go_sem, h])))))
      refine ⟨i + 1, by omega, wk_by [0, 1, 2, 3, 4] ?_, by omega⟩
      (simp (maxSteps := 1000000) (disch := first | exact dq | fail) only [go_sem])
    · obtain rfl : i = l.length := by omega
      have hcc : ¬ ((l.length : Int) < l.length) := by omega
      rw [List.take_of_length_le (Nat.le_of_eq hbl)]
      unfold bldM at hb0
      rw [hbl] at hb0
      (repeat' (first
    | ((first | with_reducible (first | refine aw_seq ?_ | refine aw_region (aops_run ?_)) | (with_reducible refine aw_regionD cwG mixed ?_ (dops_runF ?_); (· kernel_rfl)) | with_reducible (first | refine aw_condK ?_ | refine aw_skip ?_ | refine aw_ret ?_ | refine aw_exit ?_ | refine aw_label ?_ | refine aw_block ?_ | refine aw_scope ?_ | refine And.intro ?_ ?_)) <;> (try (simp (maxSteps := 1000000) (disch := first | exact dq | fail) only [go_sem, hcc, htk, decide_false])))
    | (with_reducible (first | refine wantK_split (fun h => ?_) (fun h => ?_) | refine condK_split (fun h => ?_) (fun h => ?_) | refine pickV_split (fun h => ?_) (fun h => ?_)) <;> (try (simp (maxSteps := 1000000) (disch := first | exact dq | fail) only [go_sem] at h)) <;> (try (simp (maxSteps := 1000000) (disch := first | exact dq | fail) only [go_sem, h, hcc, htk, decide_false])))))
      all_goals (try omega)
      ((with_reducible refine leftF_callRs [3, 4] (by decide) (hb0) ?_ ?_); (· (simp (maxSteps := 1000000) (disch := first | exact dq | fail) only [go_sem])); try (simp (maxSteps := 1000000) (disch := first | exact dq | fail) only [go_sem]))
      (repeat' (first
    | ((first | with_reducible (first | refine aw_seq ?_ | refine aw_region (aops_run ?_)) | (with_reducible refine aw_regionD (fun _ => .p) mixed ?_ (dops_run ?_); (· kernel_rfl)) | (with_reducible refine aw_regionD (fun _ => .r) mixed ?_ (dops_run ?_); (· kernel_rfl)) | with_reducible (first | refine aw_condK ?_ | refine aw_skip ?_ | refine aw_ret ?_ | refine aw_exit ?_ | refine aw_label ?_ | refine aw_block ?_ | refine aw_scope ?_ | refine And.intro ?_ ?_)) <;> (try (simp (maxSteps := 1000000) (disch := first | exact dq | fail) only [go_sem])))
    | (with_reducible (first | refine wantK_split (fun h => ?_) (fun h => ?_) | refine condK_split (fun h => ?_) (fun h => ?_) | refine pickV_split (fun h => ?_) (fun h => ?_)) <;> (try (simp (maxSteps := 1000000) (disch := first | exact dq | fail) only [go_sem] at h)) <;> (try (simp (maxSteps := 1000000) (disch := first | exact dq | fail) only [go_sem, h])))))
      ((first | with_reducible apply left_callf | with_reducible apply leftD_callf | with_reducible apply leftF_callf); (· with_reducible rfl); (· (simp (maxSteps := 1000000) (disch := first | exact dq | fail) only [go_sem]) <;> rfl); (· exact hB); try (simp (maxSteps := 1000000) (disch := first | exact dq | fail) only [go_sem]))
      have hz : List.mapM constIVcell [Value.int IntKind.i64 0, Value.slice none 0 0, Value.int IntKind.i64 0, Value.int IntKind.i64 0, Value.int IntKind.i64 0, Value.int IntKind.i64 0, Value.slice none 0 0] = some [.int .i64 0, .sl 0 [], .int .i64 0, .int .i64 0, .int .i64 0, .int .i64 0, .sl 0 []] := rfl
      (simp (maxSteps := 1000000) (disch := first | exact dq | fail) only [go_sem, hz, htk, eq_self, if_true])
      refine ⟨by omega, ?_⟩
      (repeat' (first
    | ((first | with_reducible (first | refine aw_seq ?_ | refine aw_region (aops_run ?_)) | (with_reducible refine aw_regionD (fun _ => .p) mixed ?_ (dops_run ?_); (· kernel_rfl)) | (with_reducible refine aw_regionD (fun _ => .r) mixed ?_ (dops_run ?_); (· kernel_rfl)) | with_reducible (first | refine aw_condK ?_ | refine aw_skip ?_ | refine aw_ret ?_ | refine aw_exit ?_ | refine aw_label ?_ | refine aw_block ?_ | refine aw_scope ?_ | refine And.intro ?_ ?_)) <;> (try (simp (maxSteps := 1000000) (disch := first | exact dq | fail) only [go_sem])))
    | (with_reducible (first | refine wantK_split (fun h => ?_) (fun h => ?_) | refine condK_split (fun h => ?_) (fun h => ?_) | refine pickV_split (fun h => ?_) (fun h => ?_)) <;> (try (simp (maxSteps := 1000000) (disch := first | exact dq | fail) only [go_sem] at h)) <;> (try (simp (maxSteps := 1000000) (disch := first | exact dq | fail) only [go_sem, h])))))
      ((first | with_reducible apply left_callf | with_reducible apply leftD_callf | with_reducible apply leftF_callf); (· with_reducible rfl); (· (simp (maxSteps := 1000000) (disch := first | exact dq | fail) only [go_sem]) <;> rfl); (· exact hP); try (simp (maxSteps := 1000000) (disch := first | exact dq | fail) only [go_sem]))
      (repeat' (first
    | ((first | with_reducible (first | refine aw_seq ?_ | refine aw_region (aops_run ?_)) | (with_reducible refine aw_regionD (fun _ => .p) mixed ?_ (dops_run ?_); (· kernel_rfl)) | (with_reducible refine aw_regionD (fun _ => .r) mixed ?_ (dops_run ?_); (· kernel_rfl)) | with_reducible (first | refine aw_condK ?_ | refine aw_skip ?_ | refine aw_ret ?_ | refine aw_exit ?_ | refine aw_label ?_ | refine aw_block ?_ | refine aw_scope ?_ | refine And.intro ?_ ?_)) <;> (try (simp (maxSteps := 1000000) (disch := first | exact dq | fail) only [go_sem])))
    | (with_reducible (first | refine wantK_split (fun h => ?_) (fun h => ?_) | refine condK_split (fun h => ?_) (fun h => ?_) | refine pickV_split (fun h => ?_) (fun h => ?_)) <;> (try (simp (maxSteps := 1000000) (disch := first | exact dq | fail) only [go_sem] at h)) <;> (try (simp (maxSteps := 1000000) (disch := first | exact dq | fail) only [go_sem, h])))))
      all_goals (try omega)
      refine ⟨k + 1, by omega, wk_by [0, 1, 2] ?_, by omega⟩
      (simp (maxSteps := 1000000) (disch := first | exact dq | fail) only [go_sem, hrt, hd1, List.map_append])
      rw [hRR]
  · obtain rfl : k = W := by omega
    have hc : ¬ ((k : Int) - 1 - k ≥ 0) := by omega
    rw [hlw]
    have hlm : List.take k ((rowsOf l k).map rankV) = (rowsOf l k).map rankV := List.take_of_length_le (by rw [List.length_map]; omega)
    (repeat' (first
    | ((first | with_reducible (first | refine aw_seq ?_ | refine aw_region (aops_run ?_)) | (with_reducible refine aw_regionD (fun _ => .p) mixed ?_ (dops_run ?_); (· kernel_rfl)) | (with_reducible refine aw_regionD (fun _ => .r) mixed ?_ (dops_run ?_); (· kernel_rfl)) | with_reducible (first | refine aw_condK ?_ | refine aw_skip ?_ | refine aw_ret ?_ | refine aw_exit ?_ | refine aw_label ?_ | refine aw_block ?_ | refine aw_scope ?_ | refine And.intro ?_ ?_)) <;> (try (simp (maxSteps := 1000000) (disch := first | exact dq | fail) only [go_sem, hc, hrl, hlm, eq_self, if_pos, decide_false])))
    | (with_reducible (first | refine wantK_split (fun h => ?_) (fun h => ?_) | refine condK_split (fun h => ?_) (fun h => ?_) | refine pickV_split (fun h => ?_) (fun h => ?_)) <;> (try (simp (maxSteps := 1000000) (disch := first | exact dq | fail) only [go_sem] at h)) <;> (try (simp (maxSteps := 1000000) (disch := first | exact dq | fail) only [go_sem, h, hc, hrl, hlm, eq_self, if_pos, decide_false])))))
    all_goals (try omega)
end Go.Proofs.Ytkfjldkememadaa.AM
