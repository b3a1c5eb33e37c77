/-
  The plain law of check sums: a step of the register, that it is linear and loses nothing, and what follows for lists of bytes. No condition, no program.
-/
import Derived.Test.YtnnhgennmlkpmaaRows
namespace Go.Proofs.Ytnnhgennmlkpmaa
set_option linter.unusedSimpArgs false
set_option linter.unusedVariables false

def poly : Nat := 0x82f63b78
/-- one bit's step of the register -/
def step1 (c : Nat) : Nat := c / 2 ^^^ (if c % 2 = 1 then poly else 0)
def stepN : Nat → Nat → Nat
  | 0, c => c
  | n + 1, c => stepN n (step1 c)
/-- a byte more, on the whole register -/
def upd (c : Nat) (b : UInt8) : Nat := stepN 8 (c ^^^ b.toNat)
def crcFold (c : Nat) (l : List UInt8) : Nat := l.foldl upd c
def crcSum (l : List UInt8) : Nat := 4294967295 ^^^ crcFold 4294967295 l

theorem step1_lt {c : Nat} (h : c < 2 ^ 32) : step1 c < 2 ^ 32 := by
  unfold step1
  refine Nat.xor_lt_two_pow (by omega) ?_
  split <;> simp [poly]
theorem stepN_lt : ∀ (n : Nat) {c : Nat}, c < 2 ^ 32 → stepN n c < 2 ^ 32
  | 0, _, h => h
  | n + 1, _, h => stepN_lt n (step1_lt h)
theorem stepN_succ' : ∀ (n c : Nat), stepN (n + 1) c = step1 (stepN n c)
  | 0, _ => rfl
  | n + 1, c => by rw [stepN, stepN_succ' n, stepN]
theorem stepN_add : ∀ (n m c : Nat), stepN (n + m) c = stepN m (stepN n c)
  | 0, m, c => by simp [stepN]
  | n + 1, m, c => by rw [Nat.add_right_comm, stepN, stepN_add n m, stepN]
theorem upd_lt {c : Nat} (b : UInt8) (h : c < 2 ^ 32) : upd c b < 2 ^ 32 :=
  stepN_lt 8 (Nat.xor_lt_two_pow h (by have := b.toNat_lt; omega))
theorem crcFold_lt : ∀ (l : List UInt8) {c : Nat}, c < 2 ^ 32 → crcFold c l < 2 ^ 32
  | [], _, h => h
  | b :: l, _, h => crcFold_lt l (upd_lt b h)
theorem crcSum_lt (l : List UInt8) : crcSum l < 2 ^ 32 := Nat.xor_lt_two_pow (by omega) (crcFold_lt l (by omega))
theorem crcFold_append (c : Nat) (a b : List UInt8) : crcFold c (a ++ b) = crcFold (crcFold c a) b := by simp [crcFold]
theorem crcFold_cons (c : Nat) (b : UInt8) (l : List UInt8) : crcFold c (b :: l) = crcFold (upd c b) l := rfl

theorem xor_half (x y : Nat) : (x ^^^ y) / 2 = x / 2 ^^^ y / 2 := by
  apply Nat.eq_of_testBit_eq
  intro i
  simp [Nat.testBit_div_two]
theorem xor_odd (x y : Nat) : (x ^^^ y) % 2 = (x % 2 + y % 2) % 2 := by
  have h : ((x ^^^ y).testBit 0) = (x.testBit 0 ^^ y.testBit 0) := Nat.testBit_xor ..
  simp only [Nat.testBit_zero] at h
  have hx := Nat.mod_two_eq_zero_or_one x
  have hy := Nat.mod_two_eq_zero_or_one y
  have hz := Nat.mod_two_eq_zero_or_one (x ^^^ y)
  rcases hx with hx | hx <;> rcases hy with hy | hy <;> rcases hz with hz | hz <;> simp [hx, hy, hz] at h ⊢
theorem step1_xor (x y : Nat) : step1 (x ^^^ y) = step1 x ^^^ step1 y := by
  unfold step1
  rw [xor_half, xor_odd]
  have hx := Nat.mod_two_eq_zero_or_one x
  have hy := Nat.mod_two_eq_zero_or_one y
  have e : x / 2 ^^^ poly ^^^ (y / 2 ^^^ poly) = x / 2 ^^^ y / 2 := by
    rw [Nat.xor_comm (y / 2), Nat.xor_assoc, ← Nat.xor_assoc poly, Nat.xor_self, Nat.zero_xor]
  rcases hx with hx | hx <;> rcases hy with hy | hy <;> simp only [hx, hy] <;> simp only [Nat.zero_add, Nat.add_zero, Nat.reduceAdd, Nat.reduceMod, if_true, Nat.xor_zero] <;> simp
  · rw [Nat.xor_assoc]
  · rw [Nat.xor_assoc, Nat.xor_assoc, Nat.xor_comm poly]
  · exact e.symm
theorem stepN_xor : ∀ (n x y : Nat), stepN n (x ^^^ y) = stepN n x ^^^ stepN n y
  | 0, _, _ => rfl
  | n + 1, x, y => by rw [stepN, step1_xor, stepN_xor n]; rfl
theorem step1_zero : step1 0 = 0 := rfl
theorem stepN_zero : ∀ n, stepN n 0 = 0
  | 0 => rfl
  | n + 1 => by rw [stepN, step1_zero, stepN_zero n]
theorem step1_two (x : Nat) : step1 (2 * x) = x := by
  unfold step1
  rw [if_neg (by omega), Nat.xor_zero]
  omega
theorem stepN_pow : ∀ (n x : Nat), stepN n (2 ^ n * x) = x
  | 0, x => by simp [stepN]
  | n + 1, x => by rw [stepN, Nat.pow_succ, Nat.mul_comm (2 ^ n), Nat.mul_assoc, step1_two, stepN_pow n]
theorem step1_inj0 {x : Nat} (h : x < 2 ^ 32) (h0 : step1 x = 0) : x = 0 := by
  unfold step1 at h0
  by_cases e : x % 2 = 1
  · rw [if_pos e] at h0
    have h1 := congrArg (fun z => z ^^^ poly) h0
    simp only [Nat.xor_assoc, Nat.xor_self, Nat.xor_zero, Nat.zero_xor] at h1
    simp only [poly] at h1
    omega
  · rw [if_neg e, Nat.xor_zero] at h0
    omega
theorem stepN_inj0 : ∀ (n : Nat) {x : Nat}, x < 2 ^ 32 → stepN n x = 0 → x = 0
  | 0, _, _, h => h
  | n + 1, _, h, h0 => step1_inj0 h (stepN_inj0 n (step1_lt h) h0)
theorem xor_eq_zero {x y : Nat} (h : x ^^^ y = 0) : x = y := by
  have := congrArg (fun z => z ^^^ y) h
  simpa [Nat.xor_assoc] using this
theorem stepN_inj (n : Nat) {x y : Nat} (hx : x < 2 ^ 32) (hy : y < 2 ^ 32) (h : stepN n x = stepN n y) : x = y :=
  xor_eq_zero (stepN_inj0 n (Nat.xor_lt_two_pow hx hy) (by rw [stepN_xor, h, Nat.xor_self]))
theorem xor_cancel {a x y : Nat} (h : a ^^^ x = a ^^^ y) : x = y := by
  have := congrArg (fun z => a ^^^ z) h
  simpa [← Nat.xor_assoc] using this
theorem upd_inj {c c' : Nat} {x y : UInt8} (h1 : c < 2 ^ 32) (h2 : c' < 2 ^ 32) (h : upd c x = upd c' y) : c ^^^ x.toNat = c' ^^^ y.toNat :=
  stepN_inj 8 (Nat.xor_lt_two_pow h1 (by have := x.toNat_lt; omega)) (Nat.xor_lt_two_pow h2 (by have := y.toNat_lt; omega)) h

/-- the table's way: what stands above the lowest byte is only moved -/
theorem upd_table {c : Nat} (b : UInt8) : c / 256 ^^^ stepN 8 (c % 256 ^^^ b.toNat) = upd c b := by
  unfold upd
  have e : c ^^^ b.toNat = (2 ^ 8 * (c / 256)) ^^^ (c % 256 ^^^ b.toNat) := by
    rw [← Nat.xor_assoc]
    congr 1
    have h := Nat.div_add_mod c 256
    have h2 : 2 ^ 8 * (c / 256) ^^^ c % 256 = 2 ^ 8 * (c / 256) + c % 256 := by
      rw [Nat.two_pow_add_eq_or_of_lt (i := 8) (by omega) (c / 256)]
      apply Nat.eq_of_testBit_eq
      intro i
      simp only [Nat.testBit_xor, Nat.testBit_or]
      by_cases hi : i < 8
      · have : (2 ^ 8 * (c / 256)).testBit i = false := by rw [Nat.testBit_two_pow_mul]; simp; omega
        rw [this]; simp
      · have : (c % 256).testBit i = false := Nat.testBit_lt_two_pow (Nat.lt_of_lt_of_le (Nat.mod_lt _ (by omega)) (by exact Nat.pow_le_pow_right (n := 2) (by omega) (by omega : 8 ≤ i)))
        rw [this]; simp
    omega
  rw [e, stepN_xor 8 (2 ^ 8 * (c / 256)), stepN_pow]

/-- lists of one byte behind a common one are told apart by it -/
theorem crcSum_turn (l : List UInt8) (x y : UInt8) : crcSum (l ++ [x]) = crcSum (l ++ [y]) ↔ x = y := by
  constructor
  · intro h
    have h1 := xor_cancel h
    rw [crcFold_append, crcFold_append] at h1
    have h2 := crcFold_lt l (c := 4294967295) (by omega)
    have h3 := upd_inj h2 h2 (show upd _ x = upd _ y from h1)
    exact UInt8.toNat.inj (xor_cancel h3)
  · rintro rfl; rfl

/-- the bits in which two lists differ, the first one's lowest: a number -/
def diffN : List UInt8 → List UInt8 → Nat
  | x :: a, y :: b => (x.toNat ^^^ y.toNat) + 256 * diffN a b
  | _, _ => 0
theorem crcFold_diff : ∀ (a b : List UInt8) (c c' : Nat), a.length = b.length → crcFold c a ^^^ crcFold c' b = stepN (8 * a.length) ((c ^^^ c') ^^^ diffN a b)
  | [], [], c, c', _ => by simp [crcFold, diffN, stepN]
  | x :: a, y :: b, c, c', h => by
    have ih := crcFold_diff a b (upd c x) (upd c' y) (by simpa using h)
    rw [crcFold_cons, crcFold_cons, ih]
    rw [show 8 * (x :: a).length = 8 + 8 * a.length from by simp [Nat.mul_add]; omega, stepN_add]
    congr 1
    have e1 : diffN (x :: a) (y :: b) = (x.toNat ^^^ y.toNat) ^^^ (2 ^ 8 * diffN a b) := by
      have hlt : x.toNat ^^^ y.toNat < 2 ^ 8 := Nat.xor_lt_two_pow (by have := x.toNat_lt; omega) (by have := y.toNat_lt; omega)
      show (x.toNat ^^^ y.toNat) + 256 * diffN a b = _
      rw [show (x.toNat ^^^ y.toNat) + 256 * diffN a b = 2 ^ 8 * diffN a b + (x.toNat ^^^ y.toNat) from by omega]
      rw [Nat.two_pow_add_eq_or_of_lt hlt]
      apply Nat.eq_of_testBit_eq
      intro i
      simp only [Nat.testBit_xor, Nat.testBit_or]
      by_cases hi : i < 8
      · have : (2 ^ 8 * diffN a b).testBit i = false := by rw [Nat.testBit_two_pow_mul]; simp; omega
        rw [this]; simp
      · have hf : ∀ z : UInt8, z.toNat.testBit i = false := fun z => Nat.testBit_lt_two_pow (Nat.lt_of_lt_of_le z.toNat_lt (Nat.pow_le_pow_right (n := 2) (by omega) (by omega : 8 ≤ i)))
        rw [hf, hf]; simp
    rw [e1]
    unfold upd
    have e2 : (c ^^^ c') ^^^ ((x.toNat ^^^ y.toNat) ^^^ (2 ^ 8 * diffN a b)) = ((c ^^^ x.toNat) ^^^ (c' ^^^ y.toNat)) ^^^ (2 ^ 8 * diffN a b) := by
      apply Nat.eq_of_testBit_eq
      intro i
      simp only [Nat.testBit_xor]
      cases c.testBit i <;> cases c'.testBit i <;> cases x.toNat.testBit i <;> cases y.toNat.testBit i <;> cases (2 ^ 8 * diffN a b).testBit i <;> rfl
    rw [e2, ← stepN_xor 8, stepN_xor 8 _ (2 ^ 8 * diffN a b), stepN_pow]

/-- two lists that differ in some bits of 32 that stand in a row have unlike sums; else they have one sum -/
theorem crcSum_burst (a b : List UInt8) (h : a.length = b.length) (k m : Nat) (hm : m < 2 ^ 32) (hk : k ≤ 8 * a.length) (hd : diffN a b = 2 ^ k * m) : crcSum a = crcSum b ↔ m = 0 := by
  have hD := crcFold_diff a b 4294967295 4294967295 h
  rw [Nat.xor_self, Nat.zero_xor, hd, show 8 * a.length = k + (8 * a.length - k) from by omega, stepN_add, stepN_pow] at hD
  constructor
  · intro he
    have h1 := xor_cancel he
    rw [h1, Nat.xor_self] at hD
    exact stepN_inj0 _ hm hD.symm
  · rintro rfl
    rw [stepN_zero] at hD
    unfold crcSum
    rw [xor_eq_zero hD]
end Go.Proofs.Ytnnhgennmlkpmaa
