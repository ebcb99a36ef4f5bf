
/- How many bits of a word are 1: what the library's sums in parallel come to. No condition. -/
import Derived.Test.YtebegdnebjjnmaaM1
set_option linter.unusedVariables false
set_option linter.unusedSimpArgs false
namespace Go.Proofs.Ytebegdnebjjnmaa.AM
open Go Go.RowKit

/-- How many of the first bits are 1. -/
def pc : Nat → Nat → Nat
  | 0, _ => 0
  | f + 1, x => x % 2 + pc f (x / 2)
theorem pc_natOf : ∀ (f : Nat) (l : List Bool), l.length ≤ f → pc f (natOf l) = l.count true
  | 0, l, h => by
    have : l = [] := List.eq_nil_of_length_eq_zero (by omega)
    subst this; rfl
  | f + 1, [], h => by
    have := pc_natOf f [] (by simp)
    simpa [pc, natOf] using this
  | f + 1, b :: l, h => by
    have h1 := pc_natOf f l (by simpa using h)
    have h2 := boolNat_lt b
    have e1 : natOf (b :: l) % 2 = b.toNat := by simp only [natOf]; omega
    have e2 : natOf (b :: l) / 2 = natOf l := by simp only [natOf]; omega
    rw [pc, e1, e2, h1]
    cases b
    · rw [List.count_cons_of_ne (by decide)]; simp
    · rw [List.count_cons_self]; simp; omega

/-- Byte by byte. -/
def bmap (f : Nat → Nat) : Nat → Nat → Nat
  | 0, _ => 0
  | k + 1, x => f (x % 256) + 256 * bmap f k (x / 256)
def mk8 (c : Nat) : Nat → Nat
  | 0 => 0
  | k + 1 => c + 256 * mk8 c k
theorem and_byte {p p' : Nat} (q q' : Nat) (h : p < 256) (h' : p' < 256) : (p + 256 * q) &&& (p' + 256 * q') = (p &&& p') + 256 * (q &&& q') := by
  have e1 : ((p + 256 * q) &&& (p' + 256 * q')) % 256 = p &&& p' := by
    have := Nat.and_mod_two_pow (a := p + 256 * q) (b := p' + 256 * q') (n := 8)
    rw [show (2 : Nat) ^ 8 = 256 from rfl] at this
    rw [this, show (p + 256 * q) % 256 = p from by omega, show (p' + 256 * q') % 256 = p' from by omega]
  have e2 : ((p + 256 * q) &&& (p' + 256 * q')) / 256 = q &&& q' := by
    have := Nat.and_div_two_pow (a := p + 256 * q) (b := p' + 256 * q') (n := 8)
    rw [show (2 : Nat) ^ 8 = 256 from rfl] at this
    rw [this, show (p + 256 * q) / 256 = q from by omega, show (p' + 256 * q') / 256 = q' from by omega]
  omega
def t1 (d : Nat) : Nat := (d / 2 &&& 85) + (d &&& 85)
def t2 (d : Nat) : Nat := (d / 4 &&& 51) + (d &&& 51)
def t3 (d : Nat) : Nat := (d / 16 + d) &&& 15
theorem t1_byte : ∀ (d : Fin 256) (b : Fin 2), ((d.val / 2 + 128 * b.val) &&& 85) = (d.val / 2 &&& 85) := by decide +kernel
theorem t2_byte : ∀ (d : Fin 256) (b : Fin 4), ((d.val / 4 + 64 * b.val) &&& 51) = (d.val / 4 &&& 51) := by decide +kernel
theorem t1_lt : ∀ d : Fin 256, t1 d.val < 256 := by decide +kernel
theorem t21_lt : ∀ d : Fin 256, t2 (t1 d.val) ≤ 68 ∧ t2 (t1 d.val) % 16 ≤ 4 := by decide +kernel
theorem t321 : ∀ d : Fin 256, t3 (t2 (t1 d.val)) = pc 8 d.val ∧ pc 8 d.val ≤ 8 := by decide +kernel
theorem step1 : ∀ (k x : Nat), (x / 2 &&& mk8 85 k) + (x &&& mk8 85 k) = bmap t1 k x
  | 0, x => by simp [mk8, bmap]
  | k + 1, x => by
    have ih := step1 k (x / 256)
    have e1 : x / 2 = ((x % 256) / 2 + 128 * ((x / 256) % 2)) + 256 * ((x / 256) / 2) := by omega
    have e2 : x = x % 256 + 256 * (x / 256) := by omega
    have a1 := and_byte ((x / 256) / 2) (mk8 85 k) (show (x % 256) / 2 + 128 * ((x / 256) % 2) < 256 by omega) (show 85 < 256 by decide)
    have a2 := and_byte (x / 256) (mk8 85 k) (show x % 256 < 256 by omega) (show 85 < 256 by decide)
    rw [← e1] at a1
    rw [← e2] at a2
    have a3 := t1_byte ⟨x % 256, by omega⟩ ⟨(x / 256) % 2, by omega⟩
    simp only at a3
    rw [a3] at a1
    simp only [mk8, bmap, t1]
    rw [a1, a2, ← ih]
    omega
theorem step2 : ∀ (k x : Nat), (x / 4 &&& mk8 51 k) + (x &&& mk8 51 k) = bmap t2 k x
  | 0, x => by simp [mk8, bmap]
  | k + 1, x => by
    have ih := step2 k (x / 256)
    have e1 : x / 4 = ((x % 256) / 4 + 64 * ((x / 256) % 4)) + 256 * ((x / 256) / 4) := by omega
    have e2 : x = x % 256 + 256 * (x / 256) := by omega
    have a1 := and_byte ((x / 256) / 4) (mk8 51 k) (show (x % 256) / 4 + 64 * ((x / 256) % 4) < 256 by omega) (show 51 < 256 by decide)
    have a2 := and_byte (x / 256) (mk8 51 k) (show x % 256 < 256 by omega) (show 51 < 256 by decide)
    rw [← e1] at a1
    rw [← e2] at a2
    have a3 := t2_byte ⟨x % 256, by omega⟩ ⟨(x / 256) % 4, by omega⟩
    simp only at a3
    rw [a3] at a1
    simp only [mk8, bmap, t2]
    rw [a1, a2, ← ih]
    omega
theorem bmap_comp (f g : Nat → Nat) (hf : ∀ d, d < 256 → f d < 256) : ∀ (k x : Nat), bmap g k (bmap f k x) = bmap (fun d => g (f d)) k x
  | 0, x => rfl
  | k + 1, x => by
    have h := hf (x % 256) (by omega)
    simp only [bmap]
    rw [show (f (x % 256) + 256 * bmap f k (x / 256)) % 256 = f (x % 256) from by omega, show (f (x % 256) + 256 * bmap f k (x / 256)) / 256 = bmap f k (x / 256) from by omega, bmap_comp f g hf k]
theorem bmap_congr {f g : Nat → Nat} (h : ∀ d, d < 256 → f d = g d) : ∀ (k x : Nat), bmap f k x = bmap g k x
  | 0, x => rfl
  | k + 1, x => by simp only [bmap]; rw [h _ (by omega), bmap_congr h k]
theorem step3 (f : Nat → Nat) (hf : ∀ d, d < 256 → f d ≤ 68 ∧ f d % 16 ≤ 4) : ∀ (k x : Nat), ((bmap f k x / 16 + bmap f k x) &&& mk8 15 k) = bmap (fun d => t3 (f d)) k x
  | 0, x => by simp [mk8, bmap]
  | k + 1, x => by
    have ih := step3 f hf k (x / 256)
    have h := hf (x % 256) (by omega)
    have hz : bmap f k (x / 256) % 16 ≤ 4 := by
      cases k with
      | zero => simp [bmap]
      | succ k =>
        have := hf (x / 256 % 256) (by omega)
        simp only [bmap]; omega
    simp only [mk8, bmap]
    generalize hz' : bmap f k (x / 256) = z at *
    generalize hd : f (x % 256) = d at *
    have e1 : (d + 256 * z) / 16 + (d + 256 * z) = (d / 16 + 16 * (z % 16) + d) + 256 * (z / 16 + z) := by omega
    rw [e1, and_byte _ _ (by omega) (by decide), ih]
    have e2 : (d / 16 + 16 * (z % 16) + d) &&& 15 = t3 d := by
      unfold t3
      have a := Nat.and_two_pow_sub_one_eq_mod (d / 16 + 16 * (z % 16) + d) 4
      have b := Nat.and_two_pow_sub_one_eq_mod (d / 16 + d) 4
      simp only [show (2 : Nat) ^ 4 = 16 from rfl, show (16 : Nat) - 1 = 15 from rfl] at a b
      omega
    rw [e2]
theorem pc_byte (f x : Nat) : pc (f + 8) x = pc 8 (x % 256) + pc f (x / 256) := by
  have e : x / 2 / 2 / 2 / 2 / 2 / 2 / 2 / 2 = x / 256 := by omega
  show x % 2 + (x / 2 % 2 + (x / 2 / 2 % 2 + (x / 2 / 2 / 2 % 2 + (x / 2 / 2 / 2 / 2 % 2 + (x / 2 / 2 / 2 / 2 / 2 % 2 + (x / 2 / 2 / 2 / 2 / 2 / 2 % 2 + (x / 2 / 2 / 2 / 2 / 2 / 2 / 2 % 2 + pc f (x / 2 / 2 / 2 / 2 / 2 / 2 / 2 / 2)))))))) = _
  rw [e]
  simp only [pc]
  omega
theorem div8 (a z : Nat) (h : a < 256) : (a + 256 * z) / 256 = z := by omega
theorem div16 (a b z : Nat) (h : a < 256) (h1 : b < 256) : (a + 256 * (b + 256 * z)) / 65536 = z := by omega
theorem div32 (a b c d z : Nat) (h : a < 256) (h1 : b < 256) (h2 : c < 256) (h3 : d < 256) : (a + 256 * (b + 256 * (c + 256 * (d + 256 * z)))) / 4294967296 = z := by omega
theorem div8' {y a z : Nat} (e : y = a + 256 * z) (h : a < 256) : y / 256 = z := by omega
theorem div16' {y a b z : Nat} (e : y = a + 256 * (b + 256 * z)) (h : a < 256) (h1 : b < 256) : y / 65536 = z := by omega
theorem div32' {y a b c d z : Nat} (e : y = a + 256 * (b + 256 * (c + 256 * (d + 256 * z)))) (h : a < 256) (h1 : b < 256) (h2 : c < 256) (h3 : d < 256) : y / 4294967296 = z := by omega
theorem mod128' {y a z : Nat} (e : y = a + 256 * z) (h : a < 128) : y % 128 = a := by omega
theorem bnd_f' {y a b c d e f g h : Nat} (hy : y = a + 256 * (b + 256 * (c + 256 * (d + 256 * (e + 256 * (f + 256 * (g + 256 * h))))))) (ha : a ≤ 64) (hb : b ≤ 64) (hc : c ≤ 64) (hd : d ≤ 64) (he : e ≤ 64) (hf : f ≤ 64) (hg : g ≤ 64) (hh : h ≤ 64) : y < 18446744073709551616 := by omega
theorem mod128 (a z : Nat) (h : a < 128) : (a + 256 * z) % 128 = a := by omega
theorem sum_f1 (p0 p1 p2 p3 p4 p5 p6 p7 : Nat) : p0 + 256 * (p1 + 256 * (p2 + 256 * (p3 + 256 * (p4 + 256 * (p5 + 256 * (p6 + 256 * (p7 + 256 * 0))))))) + (p1 + 256 * (p2 + 256 * (p3 + 256 * (p4 + 256 * (p5 + 256 * (p6 + 256 * (p7 + 256 * 0))))))) =
      (p0 + p1) + 256 * ((p1 + p2) + 256 * ((p2 + p3) + 256 * ((p3 + p4) + 256 * ((p4 + p5) + 256 * ((p5 + p6) + 256 * ((p6 + p7) + 256 * p7)))))) := by omega
theorem sum_f2 (p0 p1 p2 p3 p4 p5 p6 p7 : Nat) : (p0 + p1) + 256 * ((p1 + p2) + 256 * ((p2 + p3) + 256 * ((p3 + p4) + 256 * ((p4 + p5) + 256 * ((p5 + p6) + 256 * ((p6 + p7) + 256 * p7)))))) + ((p2 + p3) + 256 * ((p3 + p4) + 256 * ((p4 + p5) + 256 * ((p5 + p6) + 256 * ((p6 + p7) + 256 * p7))))) =
      (p0 + p1 + p2 + p3) + 256 * ((p1 + p2 + p3 + p4) + 256 * ((p2 + p3 + p4 + p5) + 256 * ((p3 + p4 + p5 + p6) + 256 * ((p4 + p5 + p6 + p7) + 256 * ((p5 + p6 + p7) + 256 * ((p6 + p7) + 256 * p7)))))) := by omega
theorem sum_f3 (p0 p1 p2 p3 p4 p5 p6 p7 : Nat) : (p0 + p1 + p2 + p3) + 256 * ((p1 + p2 + p3 + p4) + 256 * ((p2 + p3 + p4 + p5) + 256 * ((p3 + p4 + p5 + p6) + 256 * ((p4 + p5 + p6 + p7) + 256 * ((p5 + p6 + p7) + 256 * ((p6 + p7) + 256 * p7)))))) + ((p4 + p5 + p6 + p7) + 256 * ((p5 + p6 + p7) + 256 * ((p6 + p7) + 256 * p7))) =
      (p0 + (p1 + (p2 + (p3 + (p4 + (p5 + (p6 + p7))))))) + 256 * ((p1 + p2 + p3 + p4 + (p5 + p6 + p7)) + 256 * ((p2 + p3 + p4 + p5 + (p6 + p7)) + 256 * ((p3 + p4 + p5 + p6 + p7) + 256 * ((p4 + p5 + p6 + p7) + 256 * ((p5 + p6 + p7) + 256 * ((p6 + p7) + 256 * p7)))))) := by omega
theorem bnd_f (a b c d e f g h : Nat) (ha : a ≤ 64) (hb : b ≤ 64) (hc : c ≤ 64) (hd : d ≤ 64) (he : e ≤ 64) (hf : f ≤ 64) (hg : g ≤ 64) (hh : h ≤ 64) : a + 256 * (b + 256 * (c + 256 * (d + 256 * (e + 256 * (f + 256 * (g + 256 * h)))))) < 18446744073709551616 := by omega
set_option maxHeartbeats 2000000 in
theorem ones_fin (y y1 y2 y3 p0 p1 p2 p3 p4 p5 p6 p7 : Nat) (hy : y = p0 + 256 * (p1 + 256 * (p2 + 256 * (p3 + 256 * (p4 + 256 * (p5 + 256 * (p6 + 256 * (p7 + 256 * 0)))))))) (h1 : y1 = y + y / 256) (h2 : y2 = y1 + y1 / 65536) (h3 : y3 = y2 + y2 / 4294967296)
    (b0 : p0 ≤ 8) (b1 : p1 ≤ 8) (b2 : p2 ≤ 8) (b3 : p3 ≤ 8) (b4 : p4 ≤ 8) (b5 : p5 ≤ 8) (b6 : p6 ≤ 8) (b7 : p7 ≤ 8) :
    y1 < 18446744073709551616 ∧ y2 < 18446744073709551616 ∧ y3 < 18446744073709551616 ∧ y3 % 128 = p0 + (p1 + (p2 + (p3 + (p4 + (p5 + (p6 + p7)))))) := by
  have a1 := div8' hy (by omega)
  have c1 := (h1.trans (congr (congrArg HAdd.hAdd hy) a1)).trans (sum_f1 p0 p1 p2 p3 p4 p5 p6 p7)
  have a2 := div16' c1 (by omega) (by omega)
  have c2 := (h2.trans (congr (congrArg HAdd.hAdd c1) a2)).trans (sum_f2 p0 p1 p2 p3 p4 p5 p6 p7)
  have a3 := div32' c2 (by omega) (by omega) (by omega) (by omega)
  have c3 := (h3.trans (congr (congrArg HAdd.hAdd c2) a3)).trans (sum_f3 p0 p1 p2 p3 p4 p5 p6 p7)
  clear h1 h2 h3 a1 a2 a3 hy
  refine ⟨bnd_f' c1 ?_ ?_ ?_ ?_ ?_ ?_ ?_ ?_, bnd_f' c2 ?_ ?_ ?_ ?_ ?_ ?_ ?_ ?_, bnd_f' c3 ?_ ?_ ?_ ?_ ?_ ?_ ?_ ?_, mod128' c3 ?_⟩ <;> (clear c1 c2 c3; omega)
theorem pc64 (x : Nat) (hx : x < 18446744073709551616) : pc 64 x = pc 8 (x % 256) + (pc 8 (x / 256 % 256) + (pc 8 (x / 256 / 256 % 256) + (pc 8 (x / 256 / 256 / 256 % 256) + (pc 8 (x / 256 / 256 / 256 / 256 % 256) + (pc 8 (x / 256 / 256 / 256 / 256 / 256 % 256) + (pc 8 (x / 256 / 256 / 256 / 256 / 256 / 256 % 256) + pc 8 (x / 256 / 256 / 256 / 256 / 256 / 256 / 256 % 256))))))) := by
  rw [pc_byte 56, pc_byte 48, pc_byte 40, pc_byte 32, pc_byte 24, pc_byte 16, pc_byte 8]
  rw [show x / 256 / 256 / 256 / 256 / 256 / 256 / 256 % 256 = x / 256 / 256 / 256 / 256 / 256 / 256 / 256 from Nat.mod_eq_of_lt (by omega)]
/-- The sum. -/
theorem ones_sum (x y y1 y2 y3 : Nat) (hx : x < 18446744073709551616) (hy : y = bmap (pc 8) 8 x) (h1 : y1 = y + y / 256) (h2 : y2 = y1 + y1 / 65536) (h3 : y3 = y2 + y2 / 4294967296) :
    y1 < 18446744073709551616 ∧ y2 < 18446744073709551616 ∧ y3 < 18446744073709551616 ∧ y3 % 128 = pc 64 x := by
  have hp : ∀ d, d < 256 → pc 8 d ≤ 8 := fun d hd => (t321 ⟨d, hd⟩).2
  rw [pc64 x hx]
  exact ones_fin y y1 y2 y3 _ _ _ _ _ _ _ _ hy h1 h2 h3 (hp _ (Nat.mod_lt _ (by decide))) (hp _ (Nat.mod_lt _ (by decide))) (hp _ (Nat.mod_lt _ (by decide))) (hp _ (Nat.mod_lt _ (by decide))) (hp _ (Nat.mod_lt _ (by decide))) (hp _ (Nat.mod_lt _ (by decide))) (hp _ (Nat.mod_lt _ (by decide))) (hp _ (Nat.mod_lt _ (by decide)))

/-- What the library's function computes. -/
def swar (x : Nat) : Nat :=
  let a := (x / 2 &&& 6148914691236517205) + (x &&& 6148914691236517205)
  let b := (a / 4 &&& 3689348814741910323) + (a &&& 3689348814741910323)
  (b / 16 + b) &&& 1085102592571150095
theorem swar_eq (x : Nat) : swar x = bmap (pc 8) 8 x := by
  unfold swar
  have m1 : 6148914691236517205 = mk8 85 8 := by decide
  have m2 : 3689348814741910323 = mk8 51 8 := by decide
  have m3 : 1085102592571150095 = mk8 15 8 := by decide
  simp only [m1, m2, m3]
  rw [step1, step2, bmap_comp t1 t2 (fun d hd => t1_lt ⟨d, hd⟩), step3 _ (fun d hd => t21_lt ⟨d, hd⟩)]
  exact bmap_congr (fun d hd => (t321 ⟨d, hd⟩).1) 8 x

end Go.Proofs.Ytebegdnebjjnmaa.AM
