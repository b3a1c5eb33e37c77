/-
  Walks over package frame: none, May; package bit: bytes, Sound.
-/
import Derived.Test.YtnnhgennmlkpmaaFrA
namespace Go.Proofs.Ytnnhgennmlkpmaa
open Go.RowKit
set_option linter.unusedVariables false
set_option linter.unusedSimpArgs false

theorem ret_bool {a b : Bool} (h : a = b) : Ending.returned (.bool a) = Ending.returned (.bool b) := by rw [h]
theorem ret_int {k : IntKind} {a b : Int} (h : a = b) : Ending.returned (.int k a) = Ending.returned (.int k b) := by rw [h]
def bitsV (x : Value) (n : Int) : Value := .agg #[x, .int .i64 n]
def frCells (f : Fr) (x : Value) : Array Value := #[.int .u8 f.kind, .int .u32 f.epoch, .int .u32 f.series, .int .u32 f.chunk, .int .u32 f.bits, .int .u32 f.cnt, .int .u32 f.count, .bool f.closed, .int .u64 f.sum, x, .int .i64 f.n]
def frV (f : Fr) (x : Value) : Value := .agg (frCells f x)

set_option maxRecDepth 100000 in
set_option maxHeartbeats 800000 in
theorem fr_none (a : Option Addr) (len c : Nat) (n : Int) (w : World) (hl : len ≤ 9223372036854775807) :
    Calls Try.prog 20 #[.agg #[.slice a len c, .int .i64 n]] w fun e w' => e = .returned (.bool (decide (n = 0) && decide (len = 0))) ∧ Below w.heap.size w w' := by
  go_enter Try.func20, Try.ntmps20
  go_wp2
  all_goals go_ret
  all_goals refine ⟨ret_bool ?_, below_alloc _ _⟩
  · rw [Bool.eq_iff_iff]; simp [*]
  · rw [Bool.eq_iff_iff]; simp [*]

set_option maxRecDepth 100000 in
set_option maxHeartbeats 800000 in
theorem bit_bytes (n : Int) (w : World) (h0 : 0 ≤ n) (h1 : n ≤ 9223372036854775807) :
    Calls Try.prog 34 #[.int .i64 n] w fun e w' => e = .returned (.int .i64 (n / 8 + min (n % 8) 1)) ∧ w = w' := by
  go_enter Try.func34, Try.ntmps34
  go_wp2
  all_goals go_ret
  all_goals exact ⟨ret_int (by omega), rfl⟩

theorem last_test (y : UInt8) (k : Int) (h0 : 0 ≤ k) (h1 : k < 8) : bits .and .u8 (y.toNat : Int) (255 / 2 ^ k.toNat) = ((y.toNat &&& (255 >>> k.toNat) : Nat) : Int) := by
  have e : (255 / 2 ^ k.toNat : Int) = ((255 >>> k.toNat : Nat) : Int) := by
    rw [Nat.shiftRight_eq_div_pow]; simp
  have h2 : 255 >>> k.toNat ≤ 255 := by rw [Nat.shiftRight_eq_div_pow]; exact Nat.div_le_self _ _
  rw [e]
  exact u8_and_nat y.toNat (255 >>> k.toNat) (by have := y.toNat_lt; omega) (by omega)
theorem below_drewN {B n : Nat} {w w' : World} (h : Below B w w') : Below B w (w'.drewN n) := ⟨h.os, h.tape, h.output, h.size, h.block⟩

set_option maxRecDepth 100000 in
set_option maxHeartbeats 1600000 in
theorem bit_sound (a : Option Addr) (c : Nat) (b : List UInt8) (n : Int) (w : World) (hx : RdB w (.slice a b.length c) b) (hl : b.length ≤ 9223372036854775807) (h0 : -9223372036854775808 ≤ n) (h1 : n ≤ 9223372036854775807) :
    Calls Try.prog 21 #[.agg #[.slice a b.length c, .int .i64 n]] w fun e w' => e = .returned (.bool (soundB b n)) ∧ Below w.heap.size w w' := by
  have HX := hide hx
  clear hx
  by_cases hn : n < 0
  · have hnb : decide (n < 0) = true := by simpa using hn
    go_enter Try.func21, Try.ntmps21
    go_wp2
    go_quiet (fail)
    go_wp2
    go_ret
    exact ⟨ret_bool (by unfold soundB; rw [decide_eq_false (by omega)]; rfl), below_drewN (below_alloc _ _)⟩
  have hnb : decide (n < 0) = false := by simpa using hn
  have hn0 : 0 ≤ n := by omega
  clear hn
  by_cases hlen : (b.length : Int) = n / 8 + min (n % 8) 1
  case neg =>
    have hlb : ((b.length : Int) != n / 8 + min (n % 8) 1) = true := by simpa using hlen
    have hs : Hid (soundB b n = false) := hide (by unfold soundB; rw [decide_eq_false hlen]; simp)
    clear hlen
    go_enter Try.func21, Try.ntmps21
    go_wp2
    go_quiet ((go_at_call 34; exact Calls.quiet_of_same ((bit_bytes n _ hn0 h1).mono fun e w' h => ⟨h.1, h.2.symm⟩)))
    go_wp2
    go_ret
    exact ⟨ret_bool hs.out.symm, below_drewN (below_alloc _ _)⟩
  have hlb : ((b.length : Int) != n / 8 + min (n % 8) 1) = false := by simpa using hlen
  by_cases hk : n % 8 = 0
  · have hkb : (n % 8 == 0) = true := by simpa using hk
    have hs : Hid (soundB b n = true) := hide (by unfold soundB; rw [decide_eq_true hlen, decide_eq_true hn0, decide_eq_true hk]; rfl)
    clear hlen hk
    go_enter Try.func21, Try.ntmps21
    go_wp2
    go_quiet ((go_at_call 34; exact Calls.quiet_of_same ((bit_bytes n _ hn0 h1).mono fun e w' h => ⟨h.1, h.2.symm⟩)))
    go_wp2
    go_quiet (fail)
    go_wp2
    go_ret
    exact ⟨ret_bool hs.out.symm, below_drewN (below_drewN (below_alloc _ _))⟩
  · have hkb : (n % 8 == 0) = false := by simpa using hk
    have hp : 0 < b.length := by omega
    obtain ⟨b0, off, c0, he, hc, hb0⟩ := HX.out.at (k := b.length - 1) (by omega)
    simp only [Value.slice.injEq, true_and] at he
    obtain ⟨rfl, rfl⟩ := he
    have hg : b[b.length - 1] = b.getD (b.length - 1) 0 := by simp [List.getD, List.getElem?_eq_getElem (show b.length - 1 < b.length by omega)]
    rw [hg] at hc
    have hlt := last_test (b.getD (b.length - 1) 0) (n % 8) (by omega) (by omega)
    have hs : Hid (soundB b n = ((((b.getD (b.length - 1) 0).toNat &&& (255 >>> (n % 8).toNat) : Nat) : Int) == 0)) := hide (by
      unfold soundB
      rw [decide_eq_true hlen, decide_eq_true hn0, decide_eq_false hk]
      simp only [Bool.true_and, Bool.false_or]
      rw [Bool.eq_iff_iff]
      simp only [decide_eq_true_eq, beq_iff_eq]
      omega)
    generalize b.getD (b.length - 1) 0 = y at hc hlt hs
    have hcW : (w.alloc (.cells #[.slice (some ⟨b0, off, none⟩) b.length c, .int .i64 n] 28)).cell? ⟨b0, off + (b.length - 1), none⟩ = some (.int .u8 y.toNat) := ((below_alloc w _).cell (p := ⟨b0, off + (b.length - 1), none⟩) hb0).trans hc
    have i0 : (0 : Int) ≤ (b.length : Int) - 1 := by omega
    have i1 : (b.length : Int) - 1 < b.length := by omega
    have i2 : 0 ≤ n % 8 := by omega
    have i3 : n % 8 < 8 := by omega
    have HL := hide hlt
    clear hlen hk hlt hg hc
    go_enter Try.func21, Try.ntmps21
    go_wp2
    go_quiet ((go_at_call 34; exact Calls.quiet_of_same ((bit_bytes n _ hn0 h1).mono fun e w' h => ⟨h.1, h.2.symm⟩)))
    go_wp2
    go_quiet (fail)
    go_wp2
    go_ret
    exact ⟨ret_bool (by rw [hs.out, ← HL.out]), below_drewN (below_drewN (below_alloc _ _))⟩
end Go.Proofs.Ytnnhgennmlkpmaa
