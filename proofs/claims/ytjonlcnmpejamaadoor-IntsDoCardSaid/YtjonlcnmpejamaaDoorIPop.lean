/- Of no program: the ones of a number by its bytes, and the long way of bits.OnesCount64. -/
import Derived.Lib.BitFns
set_option linter.unusedVariables false
namespace Go.Proofs.YtjonlcnmpejamaaDoor.G
open Go Go.Lib
theorem popAux_zero : ∀ f, popAux f 0 = 0
  | 0 => rfl
  | f + 1 => by simp [popAux, popAux_zero f]
theorem popAux_split : ∀ (n f x : Nat), popAux (n + f) x = popAux n (x % 2 ^ n) + popAux f (x / 2 ^ n)
  | 0, f, x => by simp [popAux]
  | n + 1, f, x => by
    have h1 : x % 2 ^ (n + 1) % 2 = x % 2 := by rw [Nat.pow_succ]; exact Nat.mod_mod_of_dvd x (Nat.dvd_mul_left 2 _)
    have h2 : x % 2 ^ (n + 1) / 2 = x / 2 % 2 ^ n := by
      rw [Nat.pow_succ, Nat.mul_comm, Nat.mod_mul_right_div_self]
    have h3 : x / 2 / 2 ^ n = x / 2 ^ (n + 1) := by rw [Nat.div_div_eq_div_mul, Nat.pow_succ, Nat.mul_comm]
    rw [show n + 1 + f = (n + f) + 1 from by omega]
    simp only [popAux]
    rw [popAux_split n f (x / 2), h1, h2, h3]
    omega
theorem popAux_more (n f x : Nat) (h : x < 2 ^ n) : popAux (n + f) x = popAux n x := by
  rw [popAux_split, Nat.mod_eq_of_lt h, Nat.div_eq_of_lt h, popAux_zero]
  omega
theorem onesCount_byte (x : Nat) (h : x < 256) : onesCount x = popAux 8 x := popAux_more 8 56 x h
theorem onesCount_le8 (x : Nat) (h : x < 256) : onesCount x ≤ 8 := Lib.onesCount_le8 ⟨x, h⟩
/-- The ones of a number: those of its lowest byte and of what lies above. -/
theorem pop_bytes : ∀ (k x : Nat), popAux (8 * (k + 1)) x = onesCount (x % 256) + popAux (8 * k) (x / 256) := fun k x => by
  rw [show 8 * (k + 1) = 8 + 8 * k from by omega, popAux_split, onesCount_byte _ (Nat.mod_lt _ (by decide))]
/-! the long way of OnesCount64 -/
def m5 : Nat → Nat | 0 => 0 | n + 1 => 85 + 256 * m5 n
def m3 : Nat → Nat | 0 => 0 | n + 1 => 51 + 256 * m3 n
def mf : Nat → Nat | 0 => 0 | n + 1 => 15 + 256 * mf n
theorem and_bytes (p m M : Nat) (hm : m < 256) : p &&& (m + 256 * M) = (p % 256 &&& m) + 256 * (p / 256 &&& M) := by
  have h1 : (p &&& (m + 256 * M)) % 256 = p % 256 &&& m := by
    have := Nat.and_mod_two_pow (a := p) (b := m + 256 * M) (n := 8)
    simp only [Nat.reducePow] at this
    rw [this]; congr 1; omega
  have h2 : (p &&& (m + 256 * M)) / 256 = p / 256 &&& M := by
    have := Nat.and_div_two_pow (a := p) (b := m + 256 * M) (n := 8)
    simp only [Nat.reducePow] at this
    rw [this]; congr 1; omega
  omega
def s1 (n x : Nat) : Nat := (x / 2 &&& m5 n) + (x &&& m5 n)
def s2 (n x : Nat) : Nat := (x / 4 &&& m3 n) + (x &&& m3 n)
def s3 (n x : Nat) : Nat := (x / 16 + x) &&& mf n
set_option maxRecDepth 100000 in
theorem b1 : ∀ (a : Fin 256), ∀ c : Fin 2, (a.val / 2 + 128 * c.val) &&& 85 = a.val / 2 &&& 85 := by decide +kernel
set_option maxRecDepth 100000 in
theorem b2 : ∀ (a : Fin 256), ∀ c : Fin 4, (a.val / 4 + 64 * c.val) &&& 51 = a.val / 4 &&& 51 := by decide +kernel
def g1 (a : Nat) : Nat := (a / 2 &&& 85) + (a &&& 85)
def g2 (a : Nat) : Nat := (a / 4 &&& 51) + (a &&& 51)
set_option maxRecDepth 100000 in
theorem g1_lt : ∀ a : Fin 256, g1 a.val < 256 ∧ g2 (g1 a.val) < 256 ∧ g2 (g1 a.val) % 16 ≤ 4 ∧ g2 (g1 a.val) / 16 ≤ 4 ∧ (g2 (g1 a.val) / 16 + g2 (g1 a.val) &&& 15) = onesCount a.val := by decide +kernel
theorem s1_step (n a b : Nat) (h : a < 256) : s1 (n + 1) (a + 256 * b) = g1 a + 256 * s1 n b := by
  unfold s1 g1
  show ((a + 256 * b) / 2 &&& (85 + 256 * m5 n)) + ((a + 256 * b) &&& (85 + 256 * m5 n)) = _
  rw [and_bytes _ 85 _ (by decide), and_bytes _ 85 _ (by decide)]
  have e1 : (a + 256 * b) / 2 % 256 = a / 2 + 128 * (b % 2) := by omega
  have e2 : (a + 256 * b) / 2 / 256 = b / 2 := by omega
  have e3 : (a + 256 * b) % 256 = a := by omega
  have e4 : (a + 256 * b) / 256 = b := by omega
  have hb := b1 ⟨a, h⟩ ⟨b % 2, Nat.mod_lt _ (by decide)⟩
  simp only at hb
  rw [e1, e2, e3, e4, hb]
  omega
theorem s2_step (n a b : Nat) (h : a < 256) : s2 (n + 1) (a + 256 * b) = g2 a + 256 * s2 n b := by
  unfold s2 g2
  show ((a + 256 * b) / 4 &&& (51 + 256 * m3 n)) + ((a + 256 * b) &&& (51 + 256 * m3 n)) = _
  rw [and_bytes _ 51 _ (by decide), and_bytes _ 51 _ (by decide)]
  have e1 : (a + 256 * b) / 4 % 256 = a / 4 + 64 * (b % 4) := by omega
  have e2 : (a + 256 * b) / 4 / 256 = b / 4 := by omega
  have e3 : (a + 256 * b) % 256 = a := by omega
  have e4 : (a + 256 * b) / 256 = b := by omega
  have hb := b2 ⟨a, h⟩ ⟨b % 4, Nat.mod_lt _ (by decide)⟩
  simp only at hb
  rw [e1, e2, e3, e4, hb]
  omega
theorem s21_low (n x : Nat) : s2 n (s1 n x) % 16 ≤ 4 := by
  cases n with
  | zero => simp [s2, m3]
  | succ n =>
    have e : x = x % 256 + 256 * (x / 256) := by omega
    have hl := g1_lt ⟨x % 256, Nat.mod_lt _ (by decide)⟩
    rw [e, s1_step n _ _ (Nat.mod_lt _ (by decide)), s2_step n _ _ hl.1]
    have := hl.2.2.1
    simp only at this
    omega
theorem s3_step (n a b : Nat) (h1 : a % 16 ≤ 4) (h2 : a / 16 ≤ 4) (hb : b % 16 ≤ 4) : s3 (n + 1) (a + 256 * b) = (a / 16 + a &&& 15) + 256 * s3 n b := by
  unfold s3
  show ((a + 256 * b) / 16 + (a + 256 * b)) &&& (15 + 256 * mf n) = _
  rw [and_bytes _ 15 _ (by decide)]
  have e1 : ((a + 256 * b) / 16 + (a + 256 * b)) % 256 = (a / 16 + a) + 16 * (b % 16) := by omega
  have e2 : ((a + 256 * b) / 16 + (a + 256 * b)) / 256 = b / 16 + b := by omega
  have e3 : ((a / 16 + a) + 16 * (b % 16)) &&& 15 = (a / 16 + a) &&& 15 := by
    rw [show (15 : Nat) = 2 ^ 4 - 1 from rfl, Nat.and_two_pow_sub_one_eq_mod, Nat.and_two_pow_sub_one_eq_mod]; omega
  rw [e1, e2, e3]
theorem s_all (n x : Nat) : s3 (n + 1) (s2 (n + 1) (s1 (n + 1) x)) = onesCount (x % 256) + 256 * s3 n (s2 n (s1 n (x / 256))) := by
  have hl := g1_lt ⟨x % 256, Nat.mod_lt _ (by decide)⟩
  simp only at hl
  have e : x = x % 256 + 256 * (x / 256) := by omega
  conv => lhs; rw [e]
  rw [s1_step n _ _ (Nat.mod_lt _ (by decide)), s2_step n _ _ hl.1, s3_step n _ _ hl.2.2.1 hl.2.2.2.1 (s21_low n _), hl.2.2.2.2]
theorem dvl_ (a b : Nat) (h : a < 256) : (a + 256 * b) / 256 = b := by omega
theorem o64_a (c0 c1 c2 c3 c4 c5 c6 c7 : Nat) (l0 : c0 ≤ 8) (l1 : c1 ≤ 8) (l2 : c2 ≤ 8) (l3 : c3 ≤ 8) (l4 : c4 ≤ 8) (l5 : c5 ≤ 8) (l6 : c6 ≤ 8) (l7 : c7 ≤ 8) :
  ((c0 + 256 * (c1 + 256 * (c2 + 256 * (c3 + 256 * (c4 + 256 * (c5 + 256 * (c6 + 256 * c7))))))) + (c1 + 256 * (c2 + 256 * (c3 + 256 * (c4 + 256 * (c5 + 256 * (c6 + 256 * c7))))))) % 18446744073709551616 = (c0 + c1) + 256 * ((c1 + c2) + 256 * ((c2 + c3) + 256 * ((c3 + c4) + 256 * ((c4 + c5) + 256 * ((c5 + c6) + 256 * ((c6 + c7) + 256 * c7)))))) := by
  rw [Nat.mod_eq_of_lt (by omega)]; omega
theorem o64_b (c0 c1 c2 c3 c4 c5 c6 c7 : Nat) (l0 : c0 ≤ 16) (l1 : c1 ≤ 16) (l2 : c2 ≤ 16) (l3 : c3 ≤ 16) (l4 : c4 ≤ 16) (l5 : c5 ≤ 16) (l6 : c6 ≤ 16) (l7 : c7 ≤ 16) :
  ((c0 + 256 * (c1 + 256 * (c2 + 256 * (c3 + 256 * (c4 + 256 * (c5 + 256 * (c6 + 256 * c7))))))) + (c2 + 256 * (c3 + 256 * (c4 + 256 * (c5 + 256 * (c6 + 256 * c7)))))) % 18446744073709551616 = (c0 + c2) + 256 * ((c1 + c3) + 256 * ((c2 + c4) + 256 * ((c3 + c5) + 256 * ((c4 + c6) + 256 * ((c5 + c7) + 256 * (c6 + 256 * c7)))))) := by
  rw [Nat.mod_eq_of_lt (by omega)]; omega
theorem o64_c (c0 c1 c2 c3 c4 c5 c6 c7 : Nat) (l0 : c0 ≤ 32) (l1 : c1 ≤ 32) (l2 : c2 ≤ 32) (l3 : c3 ≤ 32) (l4 : c4 ≤ 32) (l5 : c5 ≤ 32) (l6 : c6 ≤ 32) (l7 : c7 ≤ 32) :
  ((c0 + 256 * (c1 + 256 * (c2 + 256 * (c3 + 256 * (c4 + 256 * (c5 + 256 * (c6 + 256 * c7))))))) + (c4 + 256 * (c5 + 256 * (c6 + 256 * c7)))) % 18446744073709551616 % 128 = (c0 + c4) % 128 := by
  rw [Nat.mod_eq_of_lt (b := 18446744073709551616) (by omega)]; omega
theorem ones64_num (c0 c1 c2 c3 c4 c5 c6 c7 y z u v : Nat) (l0 : c0 ≤ 8) (l1 : c1 ≤ 8) (l2 : c2 ≤ 8) (l3 : c3 ≤ 8) (l4 : c4 ≤ 8) (l5 : c5 ≤ 8) (l6 : c6 ≤ 8) (l7 : c7 ≤ 8)
  (hy : y = c0 + 256 * (c1 + 256 * (c2 + 256 * (c3 + 256 * (c4 + 256 * (c5 + 256 * (c6 + 256 * c7))))))) (hz : z = (y + y / 256) % 18446744073709551616) (hu : u = (z + z / 65536) % 18446744073709551616) (hv : v = (u + u / 4294967296) % 18446744073709551616) : v % 128 = c0 + (c1 + (c2 + (c3 + (c4 + (c5 + (c6 + c7)))))) := by
  have D : ∀ a b : Nat, a ≤ 64 → (a + 256 * b) / 256 = b := fun a b h => dvl_ a b (by clear hy hz hu hv; omega)
  have h01 : c0 + c1 ≤ 16 := by clear hy hz hu hv; omega
  have h12 : c1 + c2 ≤ 16 := by clear hy hz hu hv; omega
  have h23 : c2 + c3 ≤ 16 := by clear hy hz hu hv; omega
  have h34 : c3 + c4 ≤ 16 := by clear hy hz hu hv; omega
  have h45 : c4 + c5 ≤ 16 := by clear hy hz hu hv; omega
  have h56 : c5 + c6 ≤ 16 := by clear hy hz hu hv; omega
  have h67 : c6 + c7 ≤ 16 := by clear hy hz hu hv; omega
  rw [hy, D _ _ (Nat.le_trans l0 (by decide)), o64_a c0 c1 c2 c3 c4 c5 c6 c7 l0 l1 l2 l3 l4 l5 l6 l7] at hz
  rw [show z / 65536 = z / 256 / 256 from by rw [Nat.div_div_eq_div_mul], hz, D _ _ (Nat.le_trans h01 (by decide)), D _ _ (Nat.le_trans h12 (by decide)), o64_b _ _ _ _ _ _ _ _ h01 h12 h23 h34 h45 h56 h67 (Nat.le_trans l7 (by decide))] at hu
  have k0 : c0 + c1 + (c2 + c3) ≤ 32 := Nat.add_le_add h01 h23
  have k1 : c1 + c2 + (c3 + c4) ≤ 32 := Nat.add_le_add h12 h34
  have k2 : c2 + c3 + (c4 + c5) ≤ 32 := Nat.add_le_add h23 h45
  have k3 : c3 + c4 + (c5 + c6) ≤ 32 := Nat.add_le_add h34 h56
  have k4 : c4 + c5 + (c6 + c7) ≤ 32 := Nat.add_le_add h45 h67
  have k5 : c5 + c6 + c7 ≤ 32 := Nat.le_trans (Nat.add_le_add h56 l7) (by decide)
  rw [show u / 4294967296 = u / 256 / 256 / 256 / 256 from by simp only [Nat.div_div_eq_div_mul, Nat.reduceMul], hu, D _ _ (Nat.le_trans k0 (by decide)), D _ _ (Nat.le_trans k1 (by decide)), D _ _ (Nat.le_trans k2 (by decide)), D _ _ (Nat.le_trans k3 (by decide))] at hv
  rw [hv, o64_c _ _ _ _ _ _ _ _ k0 k1 k2 k3 k4 k5 (Nat.le_trans h67 (by decide)) (Nat.le_trans l7 (by decide))]
  clear hv hu hz hy D
  omega
theorem ones64_eq (x y z u v : Nat) (h : x < 18446744073709551616) (hy : y = s3 8 (s2 8 (s1 8 x))) (hz : z = (y + y / 256) % 18446744073709551616) (hu : u = (z + z / 65536) % 18446744073709551616) (hv : v = (u + u / 4294967296) % 18446744073709551616) : v % 128 = onesCount x := by
  have L : ∀ i, onesCount (x / 256 ^ i % 256) ≤ 8 := fun i => onesCount_le8 _ (Nat.mod_lt _ (by decide))
  have p : onesCount x = popAux (8 * (7 + 1)) x := rfl
  rw [p, pop_bytes, pop_bytes 6, pop_bytes 5, pop_bytes 4, pop_bytes 3, pop_bytes 2, pop_bytes 1, pop_bytes 0]
  rw [s_all 7, s_all 6, s_all 5, s_all 4, s_all 3, s_all 2, s_all 1, s_all 0] at hy
  have l0 := L 0; have l1 := L 1; have l2 := L 2; have l3 := L 3; have l4 := L 4; have l5 := L 5; have l6 := L 6; have l7 := L 7
  simp only [Nat.div_div_eq_div_mul, Nat.reducePow, Nat.reduceMul, Nat.div_one] at l0 l1 l2 l3 l4 l5 l6 l7 hy ⊢
  have e0 : ∀ q, s3 0 q = 0 := fun q => by simp [s3, mf]
  rw [e0] at hy
  show _ = _ + (_ + (_ + (_ + (_ + (_ + (_ + (_ + 0)))))))
  generalize onesCount (x % 256) = c0 at *
  generalize onesCount (x / 256 % 256) = c1 at *
  generalize onesCount (x / 65536 % 256) = c2 at *
  generalize onesCount (x / 16777216 % 256) = c3 at *
  generalize onesCount (x / 4294967296 % 256) = c4 at *
  generalize onesCount (x / 1099511627776 % 256) = c5 at *
  generalize onesCount (x / 281474976710656 % 256) = c6 at *
  generalize onesCount (x / 72057594037927936 % 256) = c7 at *
  clear p L e0
  exact ones64_num c0 c1 c2 c3 c4 c5 c6 c7 y z u v l0 l1 l2 l3 l4 l5 l6 l7 hy hz hu hv
theorem ones32_eq (x : Nat) (h : x < 4294967296) : onesCount (x / 16777216) + onesCount (x / 65536 % 256) + onesCount (x / 256 % 256) + onesCount (x % 256) = onesCount x := by
  have p : onesCount x = popAux 32 x := popAux_more 32 32 x h
  rw [p, show 32 = 8 * (3 + 1) from rfl, pop_bytes, pop_bytes 2, pop_bytes 1, pop_bytes 0]
  simp only [Nat.div_div_eq_div_mul, Nat.reduceMul]
  have e : x / 16777216 % 256 = x / 16777216 := by omega
  rw [e]
  show _ = _ + (_ + (_ + (_ + 0)))
  omega
end Go.Proofs.YtjonlcnmpejamaaDoor.G
