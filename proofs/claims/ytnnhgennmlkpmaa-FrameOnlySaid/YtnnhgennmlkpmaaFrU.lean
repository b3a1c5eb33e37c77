/-
  Walks over the reference of frames: number, Same.
-/
import Derived.Test.YtnnhgennmlkpmaaFrT
namespace Go.Proofs.Ytnnhgennmlkpmaa
open Go.RowKit
set_option linter.unusedVariables false
set_option linter.unusedSimpArgs false

def numW (b : List UInt8) (at_ width : Nat) : Nat := unB ((b.drop at_).take width)
theorem numW_snoc (b : List UInt8) (p k : Nat) (h : p + k < b.length) : numW b p (k + 1) = numW b p k * 256 + (b[p + k]'h).toNat := by
  unfold numW
  rw [List.take_succ_eq_append_getElem (by simp; omega), unB_snoc]
  simp

set_option maxRecDepth 100000 in
set_option maxHeartbeats 800000 in
theorem ref_number (a : Option Addr) (c : Nat) (l : List UInt8) (p width : Nat) (w : World) (hx : RdB w (.slice a l.length c) l) (hl : p + width ≤ l.length) (hw : width ≤ 8) (hc : l.length ≤ 1000000) :
    Calls Try.prog 30 #[.slice a l.length c, .int .i64 p, .int .i64 width] w fun e w' => e = .returned (.int .u64 (numW l p width : Nat)) ∧ w = w' := by
  have HX := hide hx
  clear hx
  go_enter Try.func30, Try.ntmps30
  go_wp2
  go_loop [7, 8] (fun v j => ∃ (n k : Nat), k ≤ width ∧ v = .int .u64 n ∧ n < 256 ^ k ∧ j = .int .i64 ((p + k : Nat) : Int) ∧ Hid (n = numW l p k)) (fun _ j => p + width - (intOf j).toNat)
  case atStart => exact ⟨0, 0, by omega, rfl, by simp, rfl, rfl⟩
  case round =>
    obtain ⟨n, k, hk, rfl, hn, rfl, hnm⟩ := hrel
    by_cases hlt : k < width
    · have hlt2 : p + k < l.length := by omega
      obtain ⟨b, off, c', he, hc3, hb⟩ := HX.out.at hlt2
      simp only [Value.slice.injEq, true_and] at he
      obtain ⟨rfl, rfl⟩ := he
      have hn3 : n < 72057594037927936 := Nat.lt_of_lt_of_le hn (Nat.pow_le_pow_right (n := 256) (by omega) (by omega : k ≤ 7))
      have hlt3 := l[p + k].toNat_lt
      have hn4 : n * 256 + l[p + k].toNat < 256 ^ (k + 1) := by rw [Nat.pow_succ]; omega
      have hnm2 : Hid (n * 256 + l[p + k].toNat = numW l p (k + 1)) := hide (by rw [hnm.out, numW_snoc l p k hlt2])
      obtain ⟨y, hy⟩ : ∃ y, y = l[p + k] := ⟨_, rfl⟩
      rw [← hy] at hc3 hlt3 hn4 hnm2
      obtain ⟨j, hj⟩ : ∃ j, j = p + k := ⟨_, rfl⟩
      rw [← hj] at hc3 ⊢
      have i0 : (0 : Int) ≤ j := by omega
      have i1 : (j : Int) < l.length := by omega
      have i2 : (j : Int) < (p : Int) + (width : Int) := by omega
      have HJ := hide hj
      clear hy hlt2 hj
      go_wp2
      go_round
      case rel => exact ⟨n * 256 + y.toNat, k + 1, by omega, by congr 1; omega, hn4, by have := HJ.out; congr 1; omega, hnm2⟩
      case measure => have := HJ.out; simp [intOf]; omega
    · obtain rfl : k = width := by omega
      go_wp2
      go_ret
      exact ⟨by rw [← hnm.out]; rfl, rfl⟩
end Go.Proofs.Ytnnhgennmlkpmaa
