/-
  The library's sort at uint32: reversing; the pivot (some place; nothing is moved).
-/
import Derived.Test.YtjehoingphndnaaSoA
import Derived.Sort.LotD3
import Derived.Deep.DeepCutAuto
namespace Go.Proofs.Ytjehoingphndnaa
open Go.RowKit Go.Sort
set_option linter.unusedVariables false
set_option linter.unusedSimpArgs false

set_option maxRecDepth 100000 in
set_option maxHeartbeats 1600000 in
theorem so_reverse (blk off cap a b : Nat) (d : Array Int) (w : World) (hH : Holds encU w blk off d) (hl : blk < w.heap.size) (hab : a < b) (hb : b ≤ d.size) (hsz : d.size < 4611686018427387904) :
    Calls Try.prog 29 #[.slice (some ⟨blk, off, none⟩) d.size cap, .int .i64 a, .int .i64 b] w fun e w' => e = .returned (.tuple #[]) ∧ ∃ d', RowAt w blk off d d' w' ∧ PermIn a b d d' := by
  have H0 := hide (RowAt.refl hH hl)
  clear hH
  go_enter Try.func29, Try.ntmps29
  go_wp2
  go_loopw [6, 7] (fun vi vj wr => ∃ (i j : Nat) (dk : Array Int), vi = .int .i64 i ∧ vj = .int .i64 j ∧ a ≤ i ∧ j < b ∧ i ≤ j + 1 ∧ Hid (RowAt w blk off d dk wr) ∧ Hid (PermIn a b d dk)) (fun vi vj _ => (intOf vj).toNat + 1 - (intOf vi).toNat)
  case atStart => exact ⟨a, b - 1, d, rfl, by go_num, Nat.le_refl _, by omega, by omega, H0, hide (permIn_refl _ _ _)⟩
  case round =>
    obtain ⟨i, j, dk, rfl, rfl, hai, hjb, hij, hR, hP⟩ := hrel
    obtain ⟨G, HG, hcw, hfw⟩ := hR.out.fam
    go_wp2
    · have hlt : i < j := by assumption
      obtain ⟨v3, hy3⟩ := cell?_setCell_some (w := wr) (p := ⟨blk, off + i, none⟩) (x := .int .u32 (G j)) (q := ⟨blk, off + j, none⟩) (hcw j (by omega))
      go_region
      all_goals go_wp2
      go_roundw
      case rel =>
        refine ⟨i + 1, j - 1, swp dk i j, by go_num, by go_num, by omega, by omega, by omega, hide (hR.out.swap HG.out i j (by omega) (by omega) 1), hide ?_⟩
        exact permIn_trans _ _ _ _ _ hP.out (swp_permIn dk a b i j (by omega) (by omega) (by omega) (by omega) (by rw [hR.out.size]; omega))
      case measure => simp [intOf]; omega
    · go_end0
      exact ⟨rfl, dk, hR.out, hP.out⟩

/-- the row is as it was; the counter is a number -/
structure PivAt (w0 : World) (blk off : Nat) (d0 dk : Array Int) (sb : Nat) (w : World) : Prop where
  row : RowAt w0 blk off d0 dk w
  new : w0.heap.size ≤ sb
  num : ∃ s, w.cell? ⟨sb, 0, none⟩ = some (.int .i64 s)
  soft : w.frozen? ⟨sb, 0, none⟩ = false

set_option maxRecDepth 100000 in
set_option maxHeartbeats 1600000 in
theorem so_order2 (w0 : World) (blk off cap a b : Nat) (d dk : Array Int) (sb : Nat) (ha : a < d.size) (hb : b < d.size) (w : World) (hR : PivAt w0 blk off d dk sb w) :
    Calls Try.prog 42 #[.slice (some ⟨blk, off, none⟩) d.size cap, .int .i64 a, .int .i64 b, .pointer (some ⟨sb, 0, none⟩)] w fun e w' => (∃ x y : Nat, e = .returned (.tuple #[.int .i64 x, .int .i64 y]) ∧ ((x = a ∧ y = b) ∨ (x = b ∧ y = a))) ∧ PivAt w0 blk off d dk sb w' := by
  obtain ⟨G, HG, hcw, hfw⟩ := hR.row.fam
  obtain ⟨s, hs⟩ := hR.num
  have hf := hR.soft
  have HR := hide hR
  clear hR
  go_enter Try.func42, Try.ntmps42
  go_wp2
  go_quiet (first | (go_at_call 31; refine Calls.quiet_of_same (so_Less _ _ _)))
  go_wp2
  · go_ret2
    refine ⟨⟨b, a, rfl, .inr ⟨rfl, rfl⟩⟩, (HR.out.row.drewN nq).setNew sb 0 _ HR.out.new, HR.out.new, ⟨_, World.cell?_setCell_same _ _ _ (u := .int .i64 s) (by simpa using hs)⟩, ?_⟩
    simpa using HR.out.soft
  · go_ret2
    exact ⟨⟨a, b, rfl, .inl ⟨rfl, rfl⟩⟩, HR.out.row.drewN nq, HR.out.new, HR.out.num, HR.out.soft⟩

set_option maxRecDepth 100000 in
set_option maxHeartbeats 1600000 in
theorem so_median (w0 : World) (blk off cap a b c : Nat) (d dk : Array Int) (sb : Nat) (ha : a < d.size) (hb : b < d.size) (hc : c < d.size) (w : World) (hR : PivAt w0 blk off d dk sb w) :
    Calls Try.prog 40 #[.slice (some ⟨blk, off, none⟩) d.size cap, .int .i64 a, .int .i64 b, .int .i64 c, .pointer (some ⟨sb, 0, none⟩)] w fun e w' => (∃ p : Nat, e = .returned (.int .i64 p) ∧ (p = a ∨ p = b ∨ p = c)) ∧ PivAt w0 blk off d dk sb w' := by
  have HR := hide hR
  clear hR
  go_enter Try.func40, Try.ntmps40
  go_wp2_with fail
  refine (so_order2 w0 blk off cap a b d dk sb ha hb _ HR.out).mono ?_
  rintro e w1 ⟨⟨x1, y1, rfl, h1⟩, hR1⟩
  have HR1 := hide hR1
  have hx1 : x1 < d.size := by omega
  have hy1 : y1 < d.size := by omega
  have H1 := hide h1
  clear hR1 h1
  go_wp2_with fail
  refine (so_order2 w0 blk off cap y1 c d dk sb hy1 hc _ HR1.out).mono ?_
  rintro e w2 ⟨⟨x2, y2, rfl, h2⟩, hR2⟩
  have HR2 := hide hR2
  have hx2 : x2 < d.size := by omega
  have H2 := hide h2
  clear hR2 h2
  go_wp2_with fail
  refine (so_order2 w0 blk off cap x1 x2 d dk sb hx1 hx2 _ HR2.out).mono ?_
  rintro e w3 ⟨⟨x3, y3, rfl, h3⟩, hR3⟩
  have HR3 := hide hR3
  have H3 := hide h3
  clear hR3 h3
  go_wp2
  go_ret
  have h1 := H1.out; have h2 := H2.out; have h3 := H3.out
  exact ⟨⟨y3, rfl, by omega⟩, HR3.out⟩

set_option maxRecDepth 100000 in
set_option maxHeartbeats 1600000 in
theorem so_medianAdj (w0 : World) (blk off cap a : Nat) (d dk : Array Int) (sb : Nat) (ha0 : 1 ≤ a) (ha : a + 1 < d.size) (hsz : d.size < 4611686018427387904) (w : World) (hR : PivAt w0 blk off d dk sb w) :
    Calls Try.prog 39 #[.slice (some ⟨blk, off, none⟩) d.size cap, .int .i64 a, .pointer (some ⟨sb, 0, none⟩)] w fun e w' => (∃ p : Nat, e = .returned (.int .i64 p) ∧ a - 1 ≤ p ∧ p ≤ a + 1) ∧ PivAt w0 blk off d dk sb w' := by
  have H := hide (so_median w0 blk off cap (a - 1) a (a + 1) d dk sb (by omega) (by omega) ha w hR)
  clear hR
  go_enter Try.func39, Try.ntmps39
  go_wp2_with fail
  have h := H.out
  rw [show ((a - 1 : Nat) : Int) = (a : Int) - 1 by omega, show ((a + 1 : Nat) : Int) = (a : Int) + 1 by omega] at h
  refine h.mono ?_
  rintro e w1 ⟨⟨p, rfl, hp⟩, hR1⟩
  have HR1 := hide hR1
  have HP := hide hp
  clear hR1 hp h
  go_wp2
  go_ret
  have hp := HP.out
  exact ⟨⟨p, rfl, by omega, by omega⟩, HR1.out⟩

/-- the same at integers -/
theorem so_medianI (w0 : World) (blk off cap : Nat) (a b c : Int) (d dk : Array Int) (sb : Nat) (ha : 0 ≤ a ∧ a < d.size) (hb : 0 ≤ b ∧ b < d.size) (hc : 0 ≤ c ∧ c < d.size) (w : World) (hR : PivAt w0 blk off d dk sb w) :
    Calls Try.prog 40 #[.slice (some ⟨blk, off, none⟩) d.size cap, .int .i64 a, .int .i64 b, .int .i64 c, .pointer (some ⟨sb, 0, none⟩)] w fun e w' => (∃ p : Int, e = .returned (.int .i64 p) ∧ (p = a ∨ p = b ∨ p = c)) ∧ PivAt w0 blk off d dk sb w' := by
  have h := so_median w0 blk off cap a.toNat b.toNat c.toNat d dk sb (by omega) (by omega) (by omega) w hR
  rw [Int.toNat_of_nonneg ha.1, Int.toNat_of_nonneg hb.1, Int.toNat_of_nonneg hc.1] at h
  exact h.mono fun e w' ⟨⟨p, h1, h2⟩, h3⟩ => ⟨⟨p, h1, by omega⟩, h3⟩
theorem so_medianAdjI (w0 : World) (blk off cap : Nat) (a : Int) (d dk : Array Int) (sb : Nat) (ha0 : 1 ≤ a) (ha : a + 1 < d.size) (hsz : d.size < 4611686018427387904) (w : World) (hR : PivAt w0 blk off d dk sb w) :
    Calls Try.prog 39 #[.slice (some ⟨blk, off, none⟩) d.size cap, .int .i64 a, .pointer (some ⟨sb, 0, none⟩)] w fun e w' => (∃ p : Int, e = .returned (.int .i64 p) ∧ a - 1 ≤ p ∧ p ≤ a + 1) ∧ PivAt w0 blk off d dk sb w' := by
  have h := so_medianAdj w0 blk off cap a.toNat d dk sb (by omega) (by omega) hsz w hR
  rw [Int.toNat_of_nonneg (by omega)] at h
  exact h.mono fun e w' ⟨⟨p, h1, h2, h4⟩, h3⟩ => ⟨⟨p, h1, by omega, by omega⟩, h3⟩

set_option maxRecDepth 100000 in
set_option maxHeartbeats 3200000 in
theorem so_pivot (blk off cap a b : Nat) (d : Array Int) (w : World) (hH : Holds encU w blk off d) (hl : blk < w.heap.size) (hab : a + 8 ≤ b) (hb : b ≤ d.size) (hsz : d.size < 4611686018427387904) :
    Calls Try.prog 28 #[.slice (some ⟨blk, off, none⟩) d.size cap, .int .i64 a, .int .i64 b] w fun e w' => (∃ (p : Nat) (h : Nat), e = .returned (.tuple #[.int .i64 p, .int .i64 h]) ∧ h ≤ 2 ∧ a ≤ p ∧ p < b) ∧ RowAt w blk off d d w' := by
  have H0 := hide (RowAt.refl hH hl)
  clear hH
  have HP : Hid (PivAt w blk off d d w.heap.size (w.alloc (.cells #[.int .i64 0] 3))) := hide ⟨H0.out.alloc _, Nat.le_refl _, ⟨0, by simp⟩, by simp⟩
  go_enter Try.func28, Try.ntmps28
  go_wp2_with fail
  · obtain ⟨D, hD⟩ : ∃ D, D = ((b : Int) - a) / 4 := ⟨_, rfl⟩
    rw [← hD]
    have hD2 : 12 ≤ D ∧ 4 * D ≤ (b : Int) - a := by omega
    clear hD
    refine (so_medianAdjI w blk off cap _ d d w.heap.size (by omega) (by omega) hsz _ HP.out).mono ?_
    rintro e w1 ⟨⟨p1, rfl, hp1, hp1'⟩, hR1⟩
    have HR1 := hide hR1
    clear hR1
    go_wp2_with fail
    refine (so_medianAdjI w blk off cap _ d d w.heap.size (by omega) (by omega) hsz _ HR1.out).mono ?_
    rintro e w2 ⟨⟨p2, rfl, hp2, hp2'⟩, hR2⟩
    have HR2 := hide hR2
    clear hR2
    go_wp2_with fail
    refine (so_medianAdjI w blk off cap _ d d w.heap.size (by omega) (by omega) hsz _ HR2.out).mono ?_
    rintro e w3 ⟨⟨p3, rfl, hp3, hp3'⟩, hR3⟩
    have HR3 := hide hR3
    clear hR3
    go_wp2_with fail
    refine (so_medianI w blk off cap _ _ _ d d w.heap.size ⟨by omega, by omega⟩ ⟨by omega, by omega⟩ ⟨by omega, by omega⟩ _ HR3.out).mono ?_
    rintro e w4 ⟨⟨p, rfl, hp⟩, hR4⟩
    obtain ⟨s, hs⟩ := hR4.num
    have HR := hide hR4.row
    have HPP : Hid ((a : Int) ≤ p ∧ p < b) := hide (by omega)
    obtain ⟨p, rfl⟩ : ∃ q : Nat, p = q := ⟨p.toNat, by have := HPP.out.1; omega⟩
    clear hp hR4 hp1 hp1' hp2 hp2' hp3 hp3'
    go_wp2
    all_goals go_ret2
    · exact ⟨⟨p, 1, rfl, by omega, by have := HPP.out.1; omega, by have := HPP.out.2; omega⟩, HR.out⟩
    · exact ⟨⟨p, 2, rfl, by omega, by have := HPP.out.1; omega, by have := HPP.out.2; omega⟩, HR.out⟩
    · exact ⟨⟨p, 0, rfl, by omega, by have := HPP.out.1; omega, by have := HPP.out.2; omega⟩, HR.out⟩
  · refine (so_medianI w blk off cap _ _ _ d d w.heap.size ?_ ?_ ?_ _ HP.out).mono ?_
    iterate 3 (exact ⟨by omega, by omega⟩)
    rintro e w1 ⟨⟨p, rfl, hp⟩, hR1⟩
    obtain ⟨s, hs⟩ := hR1.num
    have HR := hide hR1.row
    have HPP : Hid ((a : Int) ≤ p ∧ p < b) := hide (by omega)
    obtain ⟨p, rfl⟩ : ∃ q : Nat, p = q := ⟨p.toNat, by have := HPP.out.1; omega⟩
    clear hp hR1
    go_wp2
    all_goals go_ret2
    · exact ⟨⟨p, 1, rfl, by omega, by have := HPP.out.1; omega, by have := HPP.out.2; omega⟩, HR.out⟩
    · exact ⟨⟨p, 2, rfl, by omega, by have := HPP.out.1; omega, by have := HPP.out.2; omega⟩, HR.out⟩
    · exact ⟨⟨p, 0, rfl, by omega, by have := HPP.out.1; omega, by have := HPP.out.2; omega⟩, HR.out⟩
end Go.Proofs.Ytjehoingphndnaa
