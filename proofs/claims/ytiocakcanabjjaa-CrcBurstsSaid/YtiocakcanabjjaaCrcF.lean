/-
  The plain law of a burst: bits of a list of bytes that are turned, one by one.
-/
import Derived.Test.YtiocakcanabjjaaCrcM
namespace Go.Proofs.Ytiocakcanabjjaa
set_option linter.unusedVariables false

theorem mul_pow_xor (n x y : Nat) : 2 ^ n * (x ^^^ y) = 2 ^ n * x ^^^ 2 ^ n * y := by
  apply Nat.eq_of_testBit_eq
  intro i
  simp only [Nat.testBit_xor, Nat.testBit_two_pow_mul]
  by_cases h : n ≤ i <;> simp [h]
theorem add_eq_xor {a b : Nat} {i : Nat} (h : b < 2 ^ i) : 2 ^ i * a + b = 2 ^ i * a ^^^ b := by
  rw [Nat.two_pow_add_eq_or_of_lt h]
  apply Nat.eq_of_testBit_eq
  intro j
  simp only [Nat.testBit_xor, Nat.testBit_or, Nat.testBit_two_pow_mul]
  by_cases hj : i ≤ j
  · have : b.testBit j = false := Nat.testBit_lt_two_pow (Nat.lt_of_lt_of_le h (Nat.pow_le_pow_right (by omega) hj))
    simp [this]
  · simp [hj]
theorem diffN_cons (x y : UInt8) (a b : List UInt8) : diffN (x :: a) (y :: b) = (x.toNat ^^^ y.toNat) ^^^ 2 ^ 8 * diffN a b := by
  have hlt : x.toNat ^^^ y.toNat < 2 ^ 8 := Nat.xor_lt_two_pow (by have := x.toNat_lt; omega) (by have := y.toNat_lt; omega)
  show (x.toNat ^^^ y.toNat) + 256 * diffN a b = _
  rw [show (x.toNat ^^^ y.toNat) + 256 * diffN a b = 2 ^ 8 * diffN a b + (x.toNat ^^^ y.toNat) from by omega, add_eq_xor hlt, Nat.xor_comm]
theorem diffN_self : ∀ a : List UInt8, diffN a a = 0
  | [] => rfl
  | x :: a => by rw [diffN_cons, diffN_self a, Nat.xor_self]; rfl

/-- a byte whose r-th bit is 1 -/
def bit8 (r : Nat) : UInt8 := UInt8.ofNat (2 ^ r)
theorem bit8_nat {r : Nat} (h : r < 8) : (bit8 r).toNat = 2 ^ r := by
  unfold bit8
  rw [UInt8.toNat_ofNat']
  exact Nat.mod_eq_of_lt (Nat.pow_lt_pow_right (by omega) h)
def flip1 (l : List UInt8) (k : Nat) : List UInt8 := l.set (k / 8) (l.getD (k / 8) 0 ^^^ bit8 (k % 8))
theorem flip1_length (l : List UInt8) (k : Nat) : (flip1 l k).length = l.length := by simp [flip1]
theorem diffN_flip1 : ∀ (a c : List UInt8) (k : Nat), a.length = c.length → k < 8 * a.length → diffN a (flip1 c k) = diffN a c ^^^ 2 ^ k
  | [], _, k, _, h => by simp at h
  | x :: a, [], _, h, _ => by simp at h
  | x :: a, y :: c, k, h, hk => by
    by_cases hk8 : k < 8
    · have e : flip1 (y :: c) k = (y ^^^ bit8 k) :: c := by
        unfold flip1
        rw [Nat.div_eq_of_lt hk8, Nat.mod_eq_of_lt hk8]
        rfl
      rw [e, diffN_cons, diffN_cons, UInt8.toNat_xor, bit8_nat hk8]
      ac_rfl
    · have e : flip1 (y :: c) k = y :: flip1 c (k - 8) := by
        unfold flip1
        rw [show k / 8 = (k - 8) / 8 + 1 from by omega, show (k - 8) % 8 = k % 8 from by omega]
        rfl
      have ih := diffN_flip1 a c (k - 8) (by simpa using h) (by simp at hk; omega)
      rw [e, diffN_cons, diffN_cons, ih, mul_pow_xor, ← Nat.pow_add, show 8 + (k - 8) = k from by omega]
      ac_rfl

/-- behind i bits of a run -/
def flips (b : List UInt8) (fr run : Nat) : Nat → List UInt8
  | 0 => b
  | i + 1 => if run / 2 ^ i % 2 = 1 then flip1 (flips b fr run i) (fr + i) else flips b fr run i
theorem flips_length (b : List UInt8) (fr run : Nat) : ∀ i, (flips b fr run i).length = b.length
  | 0 => rfl
  | i + 1 => by unfold flips; split; rw [flip1_length, flips_length b fr run i]; exact flips_length b fr run i
theorem mod_pow_succ (run i : Nat) : run % 2 ^ (i + 1) = 2 ^ i * (run / 2 ^ i % 2) + run % 2 ^ i := by
  rw [Nat.pow_succ, Nat.mod_mul, Nat.add_comm]
theorem diffN_flips (b : List UInt8) (fr run : Nat) : ∀ i, fr + i ≤ 8 * b.length → diffN b (flips b fr run i) = 2 ^ fr * (run % 2 ^ i)
  | 0, _ => by simp [flips, diffN_self, Nat.mod_one]
  | i + 1, h => by
    have ih := diffN_flips b fr run i (by omega)
    unfold flips
    rw [mod_pow_succ]
    by_cases e : run / 2 ^ i % 2 = 1
    · rw [if_pos e, diffN_flip1 _ _ _ (by rw [flips_length]) (by omega), ih, e, add_eq_xor (Nat.mod_lt _ (Nat.two_pow_pos i)), mul_pow_xor, Nat.mul_one, ← Nat.pow_add, Nat.xor_comm]
    · have e0 : run / 2 ^ i % 2 = 0 := by omega
      rw [if_neg e, ih, e0]; simp
/-- the sums differ just if some bit was turned -/
theorem crc_flips (b : List UInt8) (fr run i : Nat) (hi : i ≤ 32) (h : fr + i ≤ 8 * b.length) : crcSum b = crcSum (flips b fr run i) ↔ run % 2 ^ i = 0 :=
  crcSum_burst b _ (flips_length b fr run i).symm fr _ (Nat.lt_of_lt_of_le (Nat.mod_lt _ (Nat.two_pow_pos i)) (Nat.pow_le_pow_right (by omega) hi)) (by omega) (diffN_flips b fr run i h)
end Go.Proofs.Ytiocakcanabjjaa
