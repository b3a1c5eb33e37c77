/-
  The library's sort at uint32: breakPatternsOrdered (some exchanges).
-/
import Derived.Test.YtjehoingphndnaaSoB
import Derived.Sort.Walk7
namespace Go.Proofs.Ytjehoingphndnaa
open Go.RowKit Go.Sort
set_option linter.unusedVariables false
set_option linter.unusedSimpArgs false

set_option maxRecDepth 100000 in
theorem so_Len64 (n : Int) (h0 : 0 ≤ n) (h1 : n ≤ 255) (w : World) : Calls Try.prog 35 #[.int .u64 n] w fun e w' => e = .returned (.int .i64 (Lib.bitLen n.toNat)) ∧ w' = w := by
  have e8 := Lib.len8_of n h0 h1
  have l8 := Lib.bitLen_le8' n h0 h1
  have hw : wrap64 (Lib.len8 n) = Lib.len8 n := by rw [e8]; unfold wrap64; omega
  have E8 := hide e8
  clear e8 l8
  have i0 : ¬ (4294967296 ≤ n) := by omega
  have i1 : ¬ (65536 ≤ n) := by omega
  have i2 : ¬ (256 ≤ n) := by omega
  go_enter Try.func35, Try.ntmps35
  go_wp2
  go_ret
  refine ⟨?_, rfl⟩
  simp only [hw, E8.out]
  rfl
theorem so_Len (n : Int) (h0 : 0 ≤ n) (h1 : n ≤ 255) (w : World) : Calls Try.prog 24 #[.int .u64 n] w fun e w' => e = .returned (.int .i64 (Lib.bitLen n.toNat)) ∧ w' = w := by
  have H := hide (so_Len64 n h0 h1)
  go_enter Try.func24, Try.ntmps24
  go_wp2_with (go_at_call 35; refine (H.out _).mono ?_; rintro e w' ⟨rfl, rfl⟩)
  go_ret
  exact ⟨rfl, rfl⟩
theorem so_nextPow (n : Nat) (h0 : 1 ≤ n) (h1 : n ≤ 255) (w : World) : Calls Try.prog 37 #[.int .i64 n] w fun e w' => (∃ M : Nat, e = .returned (.int .u64 M) ∧ 1 ≤ M ∧ M ≤ 2 * n) ∧ w' = w := by
  have hLen := hide (so_Len n (by omega) (by omega))
  have hb : Lib.bitLen ((n : Int)).toNat = bitsLen n := by rw [Int.toNat_natCast, bitLen_eq _ (by omega)]
  have hk : bitsLen n ≤ 62 := (bitsLen_le_iff n 62).2 (by omega)
  have hp := wrap_two_pow (bitsLen n) hk
  have hM1 : 1 ≤ 1 <<< bitsLen n := by rw [Nat.one_shiftLeft]; exact Nat.two_pow_pos _
  have hM2 : 1 <<< bitsLen n ≤ 2 * n := by rw [Nat.one_shiftLeft]; exact two_pow_bitsLen_le (by omega)
  have HM := hide (And.intro hM1 hM2)
  rw [hb] at hLen
  clear hM1 hM2 hb
  go_enter Try.func37, Try.ntmps37
  go_wp2_with (go_at_call 24; refine (hLen.out _).mono ?_; rintro e w' ⟨rfl, rfl⟩)
  go_ret
  exact ⟨⟨_, rfl, HM.out.1, HM.out.2⟩, rfl⟩

theorem so_xor_lt {a b : Int} (ha : 0 ≤ a ∧ a < 18446744073709551616) (hb : 0 ≤ b ∧ b < 18446744073709551616) : ∃ C : Nat, C < 18446744073709551616 ∧ bits .xor .u64 a b = (C : Int) := by
  obtain ⟨x, rfl⟩ : ∃ x : Nat, a = x := ⟨a.toNat, by omega⟩
  obtain ⟨y, rfl⟩ : ∃ y : Nat, b = y := ⟨b.toNat, by omega⟩
  exact ⟨x ^^^ y, Nat.xor_lt_two_pow (n := 64) (by omega) (by omega), bits_xor_u64_nat _ _ (by omega) (by omega)⟩
set_option maxRecDepth 100000 in
set_option maxHeartbeats 3200000 in
theorem so_Next (rb X : Nat) (hX : X < 18446744073709551616) (w : World) (hc : w.cell? ⟨rb, 0, none⟩ = some (.int .u64 X)) (hf : w.frozen? ⟨rb, 0, none⟩ = false) :
    Calls Try.prog 38 #[.pointer (some ⟨rb, 0, none⟩)] w fun e w' => ∃ C : Nat, C < 18446744073709551616 ∧ e = .returned (.int .u64 C) ∧ w' = (w.setCell ⟨rb, 0, none⟩ (.int .u64 C)).drewN 3 := by
  have wr : ∀ a : Int, 0 ≤ IntKind.u64.wrap a ∧ IntKind.u64.wrap a < 18446744073709551616 := fun a => by rw [IntKind.wrap_u64]; omega
  obtain ⟨A, lA, e1⟩ := so_xor_lt (a := X) (b := IntKind.u64.wrap ((X : Int) * 8192)) ⟨by omega, by omega⟩ (wr _)
  obtain ⟨B, lB, e2⟩ := so_xor_lt (a := A) (b := (A : Int) / 128) ⟨by omega, by omega⟩ ⟨by omega, by omega⟩
  obtain ⟨C, lC, e3⟩ := so_xor_lt (a := B) (b := IntKind.u64.wrap ((B : Int) * 131072)) ⟨by omega, by omega⟩ (wr _)
  have hss : ∀ v v', (w.setCell ⟨rb, 0, none⟩ v).setCell ⟨rb, 0, none⟩ v' = w.setCell ⟨rb, 0, none⟩ v' := setCell_setCell w rb 0
  have HC := hide lC
  clear wr
  go_enter Try.func38, Try.ntmps38
  go_wp2
  go_region
  all_goals go_wp2
  all_goals go_region
  all_goals go_wp2
  all_goals go_region
  all_goals go_wp2
  go_ret
  exact ⟨C, HC.out, rfl, rfl⟩

/-- the row holds dk; the generator some number -/
structure RndAt (w0 : World) (blk off : Nat) (d0 dk : Array Int) (rb : Nat) (w : World) : Prop where
  row : RowAt w0 blk off d0 dk w
  new : w0.heap.size ≤ rb
  num : ∃ X : Nat, X < 18446744073709551616 ∧ w.cell? ⟨rb, 0, none⟩ = some (.int .u64 X)
  soft : w.frozen? ⟨rb, 0, none⟩ = false
theorem so_NextR (w0 : World) (blk off : Nat) (d0 dk : Array Int) (rb : Nat) (w : World) (h : RndAt w0 blk off d0 dk rb w) :
    Calls Try.prog 38 #[.pointer (some ⟨rb, 0, none⟩)] w fun e w' => (∃ C : Nat, C < 18446744073709551616 ∧ e = .returned (.int .u64 C)) ∧ RndAt w0 blk off d0 dk rb w' := by
  obtain ⟨X, hX, hc⟩ := h.num
  refine (so_Next rb X hX w hc h.soft).mono ?_
  rintro e w' ⟨C, hC, rfl, rfl⟩
  refine ⟨⟨C, hC, rfl⟩, (h.row.setNew rb 0 _ h.new).drewN 3, h.new, ⟨C, hC, World.cell?_setCell_same _ _ _ hc⟩, ?_⟩
  show ((w.setCell ⟨rb, 0, none⟩ (.int .u64 C)).drewN 3).frozen? ⟨rb, 0, none⟩ = false
  have := h.soft
  simpa using this
theorem RndAt.swap {w0 wr : World} {blk off : Nat} {d dk : Array Int} {rb : Nat} (h : RndAt w0 blk off d dk rb wr) {G : Nat → Int} (hG : ∀ t, G t = dk[t]!) (j k : Nat) (hj : j < d.size) (hk : k < d.size) (q : Nat) :
    RndAt w0 blk off d (swp dk j k) rb (((wr.drewN q).setCell ⟨blk, off + j, none⟩ (.int .u32 (G k))).setCell ⟨blk, off + k, none⟩ (.int .u32 (G j))) := by
  obtain ⟨X, hX, hc⟩ := h.num
  have hne : blk ≠ rb := by have := h.row.low; have := h.new; omega
  refine ⟨h.row.swap hG j k hj hk q, h.new, ⟨X, hX, ?_⟩, ?_⟩
  · rw [World.cell?_setCell_other _ _ _ _ (by simp [hne]), World.cell?_setCell_other _ _ _ _ (by simp [hne])]
    exact hc
  · have := h.soft
    simpa using this

theorem so_nextPowI (n : Int) (h0 : 1 ≤ n) (h1 : n ≤ 255) (w : World) : Calls Try.prog 37 #[.int .i64 n] w fun e w' => (∃ M : Nat, e = .returned (.int .u64 M) ∧ 1 ≤ M ∧ M ≤ 2 * n) ∧ w' = w := by
  have h := so_nextPow n.toNat (by omega) (by omega) w
  rw [Int.toNat_of_nonneg (by omega)] at h
  exact h.mono fun e w' ⟨⟨M, h1, h2, h3⟩, h4⟩ => ⟨⟨M, h1, h2, by omega⟩, h4⟩
theorem so_and (C M : Nat) (hC : C < 18446744073709551616) (hM1 : 1 ≤ M) (hM : M ≤ 1000) : ∃ O : Nat, O ≤ M - 1 ∧ bits .and .u64 (C : Int) ((M : Int) - 1) = (O : Int) := by
  refine ⟨C &&& (M - 1), Nat.and_le_right, ?_⟩
  rw [show ((M : Int) - 1) = ((M - 1 : Nat) : Int) by omega, bits_and_u64_nat _ _ hC (by omega)]

set_option maxRecDepth 100000 in
set_option maxHeartbeats 6400000 in
theorem so_break (blk off cap a b : Nat) (d : Array Int) (w : World) (hH : Holds encU w blk off d) (hl : blk < w.heap.size) (hab : a + 8 ≤ b) (hb : b ≤ d.size) (hsz : d.size ≤ 255) :
    Calls Try.prog 27 #[.slice (some ⟨blk, off, none⟩) d.size cap, .int .i64 a, .int .i64 b] w fun e w' => e = .returned (.tuple #[]) ∧ ∃ d', RowAt w blk off d d' w' ∧ PermIn a b d d' := by
  have H0 := hide (RowAt.refl hH hl)
  have HR0 : ∀ v : Nat, v < 18446744073709551616 → RndAt w blk off d d w.heap.size (w.alloc (.cells #[.int .u64 v] 73)) := fun v hv => ⟨H0.out.alloc _, Nat.le_refl _, ⟨v, hv, by simp⟩, by simp⟩
  have HR := hide (HR0 (b - a) (by omega))
  rw [show ((b - a : Nat) : Int) = (b : Int) - a by omega] at HR
  clear hH HR0
  go_enter Try.func27, Try.ntmps27
  go_wp2_with fail
  · refine (so_nextPowI _ ?_ ?_ _).mono ?_
    iterate 2 omega
    rintro e w' ⟨⟨M, rfl, hM1, hM2⟩, rfl⟩
    go_wp2_with fail
    go_loopw [9] (fun vi wr => ∃ (t : Nat) (dk : Array Int), vi = .int .i64 t ∧ (a : Int) + ((b : Int) - a) / 4 * 2 - 1 ≤ t ∧ t ≤ (a : Int) + ((b : Int) - a) / 4 * 2 + 2 ∧ Hid (RndAt w blk off d dk w.heap.size wr) ∧ Hid (PermIn a b d dk)) (fun vi _ => b + 5 - (intOf vi).toNat)
    case atStart => exact ⟨((a : Int) + ((b : Int) - a) / 4 * 2 - 1).toNat, d, by congr 1; omega, by omega, by omega, HR, hide (permIn_refl _ _ _)⟩
    case round =>
      clear HR
      obtain ⟨t, dk, rfl, ht1, ht2, hR, hP⟩ := hrel
      go_wp2_with fail
      · refine (so_NextR w blk off d dk w.heap.size _ hR.out).mono ?_
        rintro e w1 ⟨⟨C, hC, rfl⟩, hR1⟩
        have HR1 := hide hR1
        obtain ⟨O, hO1, hO2⟩ := so_and C M hC hM1 (by omega)
        have HC := hide hC
        clear hR1 hC hR
        obtain ⟨G, HG, hcw, hfw⟩ := HR1.out.row.fam
        go_wp2_with fail
        · obtain ⟨P, hPP⟩ : ∃ P : Nat, (O : Int) - ((b : Int) - a) = P := ⟨((O : Int) - ((b : Int) - a)).toNat, by omega⟩
          rw [hPP]
          obtain ⟨v3, hy3⟩ := cell?_setCell_some (w := w1) (p := ⟨blk, off + t, none⟩) (x := .int .u32 (G (a + P))) (q := ⟨blk, off + (a + P), none⟩) (hcw (a + P) (by omega))
          go_region
          all_goals go_wp2
          all_goals go_roundw
          case rel =>
            refine ⟨t + 1, swp dk t (a + P), by go_num, by omega, by omega, hide (HR1.out.swap HG.out t (a + P) (by omega) (by omega) 1), hide ?_⟩
            exact permIn_trans _ _ _ _ _ hP.out (swp_permIn dk a b t (a + P) (by omega) (by omega) (by omega) (by omega) (by rw [HR1.out.row.size]; omega))
          case measure => simp [intOf]; omega
        · obtain ⟨v3, hy3⟩ := cell?_setCell_some (w := w1) (p := ⟨blk, off + t, none⟩) (x := .int .u32 (G (a + O))) (q := ⟨blk, off + (a + O), none⟩) (hcw (a + O) (by omega))
          go_region
          all_goals go_wp2
          all_goals go_roundw
          case rel =>
            refine ⟨t + 1, swp dk t (a + O), by go_num, by omega, by omega, hide (HR1.out.swap HG.out t (a + O) (by omega) (by omega) 1), hide ?_⟩
            exact permIn_trans _ _ _ _ _ hP.out (swp_permIn dk a b t (a + O) (by omega) (by omega) (by omega) (by omega) (by rw [HR1.out.row.size]; omega))
          case measure => simp [intOf]; omega
      · go_end0
        exact ⟨rfl, dk, hR.out.row, hP.out⟩
end Go.Proofs.Ytjehoingphndnaa
