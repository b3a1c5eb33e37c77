/-
  Frames as plain data: how they are written, which may be, what bytes are read as. No program.
-/
import Derived.Test.YtnnhgennmlkpmaaCrcM
namespace Go.Proofs.Ytnnhgennmlkpmaa
set_option linter.unusedVariables false

/-- four bytes of a number, the highest first -/
def be4 (n : Nat) : List UInt8 := [UInt8.ofNat (n / 16777216), UInt8.ofNat (n / 65536), UInt8.ofNat (n / 256), UInt8.ofNat n]
/-- bytes as a number -/
def unB (l : List UInt8) : Nat := l.foldl (fun n c => n * 256 + c.toNat) 0
theorem be4_length (n : Nat) : (be4 n).length = 4 := rfl
theorem unB_be4 {n : Nat} (h : n < 4294967296) : unB (be4 n) = n := by
  simp only [unB, be4, List.foldl_cons, List.foldl_nil, UInt8.toNat_ofNat']
  omega
theorem unB_four (a b c d : UInt8) : unB [a, b, c, d] = ((a.toNat * 256 + b.toNat) * 256 + c.toNat) * 256 + d.toNat := by simp [unB]
theorem unB_four_lt (a b c d : UInt8) : unB [a, b, c, d] < 4294967296 := by
  rw [unB_four]
  have := a.toNat_lt; have := b.toNat_lt; have := c.toNat_lt; have := d.toNat_lt
  omega
theorem be4_unB (a b c d : UInt8) : be4 (unB [a, b, c, d]) = [a, b, c, d] := by
  have ha := a.toNat_lt; have hb := b.toNat_lt; have hc := c.toNat_lt; have hd := d.toNat_lt
  rw [unB_four]
  simp only [be4, List.cons.injEq, and_true]
  refine ⟨?_, ?_, ?_, ?_⟩ <;> apply UInt8.toNat.inj <;> rw [UInt8.toNat_ofNat'] <;> omega
theorem unB_snoc (l : List UInt8) (c : UInt8) : unB (l ++ [c]) = unB l * 256 + c.toNat := by simp [unB]
theorem len_four {l : List UInt8} (h : l.length = 4) : ∃ a b c d, l = [a, b, c, d] := by
  match l, h with
  | [a, b, c, d], _ => exact ⟨a, b, c, d, rfl⟩
theorem unB_lt {l : List UInt8} (h : l.length = 4) : unB l < 4294967296 := by
  obtain ⟨a, b, c, d, rfl⟩ := len_four h
  exact unB_four_lt a b c d
theorem be4_unB' {l : List UInt8} (h : l.length = 4) : be4 (unB l) = l := by
  obtain ⟨a, b, c, d, rfl⟩ := len_four h
  exact be4_unB a b c d
theorem be4_inj {n m : Nat} (hn : n < 4294967296) (hm : m < 4294967296) (h : be4 n = be4 m) : n = m := by rw [← unB_be4 hn, h, unB_be4 hm]

structure Fr where
  kind : Nat
  epoch : Nat
  series : Nat
  chunk : Nat
  bits : Nat
  cnt : Nat
  count : Nat
  closed : Bool
  sum : Nat
  b : List UInt8
  n : Int
/-- the bounds of its fields -/
structure Fr.Ok (f : Fr) : Prop where
  kind : f.kind < 256
  epoch : f.epoch < 4294967296
  series : f.series < 4294967296
  chunk : f.chunk < 4294967296
  bits : f.bits < 4294967296
  cnt : f.cnt < 4294967296
  count : f.count < 4294967296
  sum : f.sum < 18446744073709551616
  lo : -9223372036854775808 ≤ f.n
  hi : f.n ≤ 9223372036854775807

/-- so many bits may stand in so many bytes, what is left of the last one noughts -/
def soundB (b : List UInt8) (n : Int) : Bool :=
  decide (0 ≤ n) && (decide ((b.length : Int) = n / 8 + min (n % 8) 1) && (decide (n % 8 = 0) || decide (((b.getD (b.length - 1) 0).toNat &&& (255 >>> (n % 8).toNat)) = 0)))
def noneB (f : Fr) : Bool := decide (f.n = 0) && decide (f.b.length = 0)
def fullB (f : Fr) : Bool := soundB f.b f.n && (decide (0 < f.n) && (decide (f.cnt < f.count) && decide (f.b.length ≤ 4052)))
def mayB (f : Fr) : Bool :=
  if f.kind = 1 then noneB f && (decide (f.series = 0) && (decide (f.chunk = 0 ∧ f.bits = 0 ∧ f.cnt = 0) && (decide (f.count = 0) && (!f.closed && decide (f.sum = 0)))))
  else if f.kind = 4 ∨ f.kind = 5 then noneB f && (decide (f.count = 0) && !f.closed)
  else if f.kind = 3 then decide (f.bits = 0 ∧ f.cnt = 0 ∧ f.sum = 0) && fullB f
  else if f.kind = 2 then fullB f
  else false

def flagB (b : Bool) : UInt8 := if b then 1 else 0
/-- a frame's bytes, without their sum -/
def headB (f : Fr) : List UInt8 :=
  [0x44, 0x59, UInt8.ofNat f.kind] ++ be4 f.epoch ++ be4 f.series ++ be4 f.chunk ++ be4 f.bits ++ be4 f.cnt ++ be4 f.count ++ [flagB f.closed] ++ be4 (f.sum / 4294967296) ++ be4 (f.sum % 4294967296) ++ be4 (f.n % 4294967296).toNat
def bodyB (f : Fr) : List UInt8 := headB f ++ f.b
def writeB (f : Fr) : List UInt8 := bodyB f ++ be4 (crcSum (bodyB f))
theorem headB_length (f : Fr) : (headB f).length = 40 := rfl
theorem writeB_length (f : Fr) : (writeB f).length = 44 + f.b.length := by
  simp only [writeB, bodyB, List.length_append, headB_length, be4_length]; omega
end Go.Proofs.Ytnnhgennmlkpmaa
