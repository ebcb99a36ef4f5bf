
/- Chapter 16's laws: what their walks ask beside, plainly. No condition. -/
import Derived.Test.YtnijpeeehnnipaaYL
set_option linter.unusedVariables false
set_option linter.unusedSimpArgs false
set_option maxRecDepth 20000
namespace Go.Proofs.Ytnijpeeehnnipaa.AM
open Go Go.RowKit

theorem begs_at (t : Tr) {c : Nat} (h : c < 2 * t.names.length + 2) : ((List.range (2 * t.names.length + 2)).map (fun (c : Nat) => begC t c)).getD c 0 = begC t c := by
  simp [List.getD, h]
theorem get_of {l : List Int} {k : Nat} {x : Int} (hk : k < l.length) (h : l.getD k 0 = x) : l[k]? = some x := by
  rw [← h]; simp [List.getD, List.getElem?_eq_getElem hk]
theorem ord_step (t : Tr) {i : Nat} (h0 : 1 ≤ i) (hi : i < t.len) : ltN t ((ordL t).getD (i - 1) 0) ((ordL t).getD i 0) := by
  have := List.pairwise_iff_getElem.1 (ord_pw t) (i - 1) i (by rw [ordL_len]; omega) (by rw [ordL_len]; omega) (by omega)
  rwa [← getD_el, ← getD_el] at this
theorem lt_cmp {t : Tr} {a b : Int} (h : ltN t a b) : cmpL (upT t a) (upT t b) = -1 ∨ (cmpL (upT t a) (upT t b) = 0 ∧ a < b) := by
  rw [cmpL_wl]
  rcases h with h | ⟨e, h⟩
  · left; rw [if_pos h]
  · right; rw [e, wl_irr, if_neg (by decide), if_neg (by decide)]; exact ⟨rfl, h⟩
def c1N (t : Tr) (i : Nat) : Int := (((ordL t).take i).countP (lastB t) : Int) - ((ordL t).take i).countP (nlf t)
def c2N (t : Tr) (i : Nat) : Int := ((idL i).countP (nlf t) : Int) - ((ordL t).take i).countP (nlf t)
def c3N (t : Tr) (c : Int) (i : Nat) : Int := (((ordL t).take i).countP (fun p => decide (symF t p = c)) : Int) - (idL i).countP (fun p => decide (symF t p = c))
theorem cnt_take {q : Int → Bool} {l : List Int} {i : Nat} {x : Int} (h : l[i]? = some x) : (l.take (i + 1)).countP q = (l.take i).countP q + (if q x = true then 1 else 0) := by
  rw [List.take_add_one, h, List.countP_append]
  simp [List.countP_cons]
theorem cnt_idL {q : Int → Bool} {i : Nat} : (idL (i + 1)).countP q = (idL i).countP q + (if q i = true then 1 else 0) := by
  rw [idL_succ, List.countP_append]
  simp [List.countP_cons]
theorem cnt_tb (q : Int → Bool) (l : List Int) (i : Nat) : (l.take i).countP q ≤ i := Nat.le_trans (List.countP_le_length) (by rw [List.length_take]; omega)
theorem cnt_ib (q : Int → Bool) (i : Nat) : (idL i).countP q ≤ i := Nat.le_trans (List.countP_le_length) (by rw [idL_len]; omega)
theorem c_bd (t : Tr) (c : Int) (i : Nat) (hi : i ≤ 5000) : (-5000 ≤ c1N t i ∧ c1N t i ≤ 5000) ∧ (-5000 ≤ c2N t i ∧ c2N t i ≤ 5000) ∧ (-5000 ≤ c3N t c i ∧ c3N t c i ≤ 5000) := by
  unfold c1N c2N c3N
  have h1 := cnt_tb (lastB t) (ordL t) i
  have h2 := cnt_tb (nlf t) (ordL t) i
  have h3 := cnt_tb (fun p => decide (symF t p = c)) (ordL t) i
  have h4 := cnt_ib (nlf t) i
  have h5 := cnt_ib (fun p => decide (symF t p = c)) i
  omega
theorem c_step (t : Tr) (c : Int) {i : Nat} {x : Int} (h : (ordL t)[i]? = some x) : c1N t (i + 1) = c1N t i + (if lastB t x = true then 1 else 0) - (if leafB t x = true then 0 else 1) ∧
    c2N t (i + 1) = c2N t i + (if nlf t i = true then 1 else 0) - (if leafB t x = true then 0 else 1) ∧ c3N t c (i + 1) = c3N t c i + (if symF t x = c then 1 else 0) - (if symF t i = c then 1 else 0) := by
  unfold c1N c2N c3N
  rw [cnt_take (q := lastB t) h, cnt_take (q := nlf t) h, cnt_take (q := fun p => decide (symF t p = c)) h, cnt_idL, cnt_idL]
  have e : nlf t x = !leafB t x := rfl
  rw [e]
  simp only [decide_eq_true_eq]
  refine ⟨?_, ?_, ?_⟩
  · cases leafB t x <;> cases lastB t x <;> simp <;> omega
  · cases leafB t x <;> cases nlf t i <;> simp <;> omega
  · split <;> split <;> omega
theorem c_end {t : Tr} (ht : TOk t) (c : Int) : c1N t t.len = 1 ∧ c2N t t.len = 0 ∧ c3N t c t.len = 0 := by
  have h := last_all ht
  have e : (ordL t).take t.len = ordL t := List.take_of_length_le (by rw [ordL_len]; omega)
  unfold c1N c2N c3N
  rw [e, (ordL_perm t).countP_eq (nlf t), (ordL_perm t).countP_eq (fun p => decide (symF t p = c)), h, (ordL_perm t).countP_eq (nlf t)]
  omega
theorem c_zero (t : Tr) (c : Int) : c1N t 0 = 0 ∧ c2N t 0 = 0 ∧ c3N t c 0 = 0 := ⟨rfl, rfl, rfl⟩
end Go.Proofs.Ytnijpeeehnnipaa.AM
