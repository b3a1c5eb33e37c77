/-
  The library's sort at uint32: partialInsertionSortOrdered.
-/
import Derived.Test.YtjehoingphndnaaSoD
namespace Go.Proofs.Ytjehoingphndnaa
open Go.RowKit Go.Sort
set_option linter.unusedVariables false
set_option linter.unusedSimpArgs false

set_option maxRecDepth 100000 in
set_option maxHeartbeats 6400000 in
theorem so_partial (blk off cap a b : Nat) (d : Array Int) (w : World) (hH : Holds encU w blk off d) (hl : blk < w.heap.size) (hab : a < b) (hb : b ≤ d.size) (hsz : d.size < 1152921504606846976) :
    Calls Try.prog 30 #[.slice (some ⟨blk, off, none⟩) d.size cap, .int .i64 a, .int .i64 b] w fun e w' => e = .returned (.bool (Sort.partialInsertionSort ltInt d a b).2) ∧ RowAt w blk off d (Sort.partialInsertionSort ltInt d a b).1 w' := by
  have H0 := hide (RowAt.refl hH hl)
  clear hH
  go_enter Try.func30, Try.ntmps30
  go_wp2
  go_loopw [7, 8] (fun vi vs wr => ∃ (i s : Nat) (dk : Array Int), vi = .int .i64 i ∧ vs = .int .i64 s ∧ s ≤ 5 ∧ a < i ∧ i ≤ b ∧ Hid (RowAt w blk off d dk wr) ∧ Hid (partialIns ltInt a b (5 - s) i dk = partialIns ltInt a b 5 (a + 1) d)) (fun _ vs _ => 5 - (intOf vs).toNat)
  case atStart => exact ⟨a + 1, 0, d, by go_num, rfl, by omega, by omega, by omega, H0, hide rfl⟩
  case round =>
    obtain ⟨i, s, dk, rfl, rfl, hs5, hai, hib, hR, hO⟩ := hrel
    by_cases hs : s < 5
    · go_upto_block 2 with fail
      go_cut [7] (fun v wx => ∃ k : Nat, v = .int .i64 k ∧ i ≤ k ∧ k ≤ b ∧ Hid (RowAt w blk off d dk wx) ∧ Hid (scanSorted ltInt dk b i = k))
      case first =>
        go_wp2_with fail
        go_loopw [7] (fun vi wr2 => ∃ k : Nat, vi = .int .i64 k ∧ i ≤ k ∧ k ≤ b ∧ Hid (RowAt w blk off d dk wr2) ∧ Hid (scanSorted ltInt dk b k = scanSorted ltInt dk b i)) (fun vi _ => b - (intOf vi).toNat)
        case atStart => exact ⟨i, rfl, Nat.le_refl _, hib, hR, hide rfl⟩
        case round =>
          clear hR
          obtain ⟨k, rfl, hik, hkb, hR, hS⟩ := hrel
          obtain ⟨G, HG, hcw, hfw⟩ := hR.out.fam
          by_cases hkb' : k < b
          · go_wp2_with fail
            go_big_quiet (first | (go_at_call 31; refine Calls.quiet_of_same (so_Less _ _ _)))
            go_wp2
            · have hl : ltInt (G k) (G (k - 1)) = false := by
                have h : (!ltInt (G k) (G (k - 1))) = true := by assumption
                simpa using h
              go_roundw
              case rel => exact ⟨k + 1, by go_num, by omega, by omega, hide (hR.out.drewN nq), hide (by rw [← hS.out, scanSorted_go ltInt dk b k hkb' (by rw [← HG.out, ← HG.out]; exact hl)])⟩
              case measure => simp [intOf]; omega
            · have hl : ltInt (G k) (G (k - 1)) = true := by
                have h : (!ltInt (G k) (G (k - 1))) = false := by assumption
                simpa using h
              go_meet
              exact ⟨k, rfl, hik, hkb, hide (hR.out.drewN nq), hide (by rw [← hS.out, scanSorted_stop ltInt dk b k (Or.inr (by rw [← HG.out, ← HG.out]; exact hl))])⟩
          · go_wp2_with fail
            go_big_quiet (first | (go_at_call 31; refine Calls.quiet_of_same (so_Less _ _ _)))
            go_wp2
            go_meet
            exact ⟨k, rfl, hik, hkb, hide (hR.out.drewN nq), hide (by rw [← hS.out, scanSorted_stop ltInt dk b k (Or.inl hkb')])⟩
      case rest =>
      clear hR
      obtain ⟨k, rfl, hik, hkb, hR, hK⟩ := hcut
      by_cases hkb' : k = b
      · subst hkb'
        go_wp2
        go_ret
        have hv := pi_true ltInt a k s i dk hs hK.out
        unfold Sort.partialInsertionSort
        rw [← hO.out, hv]
        exact ⟨rfl, hR.out⟩
      have hkz : ((k : Int) == b) = false := by simpa using (by omega : ¬ (k : Int) = b)
      have hkz2 : ¬ ((k : Int) = b) := by omega
      by_cases h50 : b - a < 50
      · have h50z : (b : Int) - a < 50 := by omega
        go_wp2
        go_ret
        have hv := pi_short ltInt a b s i dk hs (by rw [hK.out]; exact hkb') h50
        unfold Sort.partialInsertionSort
        rw [← hO.out, hv]
        exact ⟨rfl, hR.out⟩
      have h50z : ¬ ((b : Int) - a < 50) := by omega
      have HV : Hid _ := hide (pi_go ltInt a b s i k dk hs hK.out hkb' h50)
      obtain ⟨G, HG, hcw, hfw⟩ := hR.out.fam
      obtain ⟨v3, hy3⟩ := cell?_setCell_some (w := wc) (p := ⟨blk, off + k, none⟩) (x := .int .u32 (G (k - 1))) (q := ⟨blk, off + (k - 1), none⟩) (hcw (k - 1) (by omega))
      go_upto_if 61 with go_region
      have hR2 := hide (hR.out.swap HG.out k (k - 1) (by omega) (by omega) 1)
      obtain ⟨w2, hw2⟩ : ∃ w2, w2 = ((wc.setCell ⟨blk, off + k, none⟩ (.int .u32 (G (k - 1)))).setCell ⟨blk, off + (k - 1), none⟩ (.int .u32 (G k))).drew := ⟨_, rfl⟩
      have hR3 : Hid (RowAt w blk off d (swp dk k (k - 1)) w2) := hide (by rw [hw2]; exact hR2.out)
      rw [← hw2]
      obtain ⟨d2, hd2⟩ : ∃ d2, d2 = swp dk k (k - 1) := ⟨_, rfl⟩
      rw [← hd2] at hR3 HV
      clear HG hcw hfw hy3 hw2 hd2 hR2 hR
      go_cut [] (fun wx => Hid (RowAt w blk off d (fixDown ltInt a k d2) wx))
      case first =>
        by_cases hk2 : k - a ≥ 2
        · have hk2z : 2 ≤ (k : Int) - a := by omega
          have HD : Hid (fixDown ltInt a k d2 = shiftDown ltInt (k - 1) d2) := hide (by unfold fixDown; rw [if_pos hk2])
          go_wp2_with fail
          go_loopw [9] (fun vj wr2 => ∃ (j : Nat) (dj : Array Int), vj = .int .i64 j ∧ j ≤ k - 1 ∧ Hid (RowAt w blk off d dj wr2) ∧ Hid (shiftDown ltInt j dj = shiftDown ltInt (k - 1) d2)) (fun vj _ => (intOf vj).toNat)
          case atStart => exact ⟨k - 1, d2, by go_num, Nat.le_refl _, hR3, hide rfl⟩
          case round =>
            clear hR3
            obtain ⟨j, dj, rfl, hjk, hR, hS⟩ := hrel
            by_cases hj0 : j = 0
            · subst hj0
              have hst : shiftDown ltInt 0 dj = dj := shiftDown_stop ltInt 0 dj (.inl rfl)
              go_wp2
              go_meet
              exact hide (by rw [HD.out, ← hS.out, hst]; exact hR.out)
            · have hj1 : 1 ≤ (j : Int) := by omega
              obtain ⟨G, HG, hcw, hfw⟩ := hR.out.fam
              go_wp2_with fail
              go_big_quiet (first | (go_at_call 31; refine Calls.quiet_of_same (so_Less _ _ _)))
              go_wp2
              · have hl : ltInt (G j) (G (j - 1)) = false := by
                  have h : (!ltInt (G j) (G (j - 1))) = true := by assumption
                  simpa using h
                go_meet
                exact hide (by rw [HD.out, ← hS.out, shiftDown_stop ltInt j dj (.inr (by rw [← HG.out, ← HG.out]; exact hl))]; exact hR.out.drewN nq)
              · have hl : ltInt (G j) (G (j - 1)) = true := by
                  have h : (!ltInt (G j) (G (j - 1))) = false := by assumption
                  simpa using h
                have hR4 := hide (hR.out.drewN nq)
                generalize wr.drewN nq = w4 at hR4 ⊢
                have HSS : Hid (shiftDown ltInt j dj = shiftDown ltInt (j - 1) (swp dj j (j - 1))) := hide (shiftDown_go ltInt j dj (by omega) (by rw [← HG.out, ← HG.out]; exact hl))
                clear HG hcw hfw hl
                obtain ⟨G, HG, hcw, hfw⟩ := hR4.out.fam
                obtain ⟨v3, hy3⟩ := cell?_setCell_some (w := w4) (p := ⟨blk, off + j, none⟩) (x := .int .u32 (G (j - 1))) (q := ⟨blk, off + (j - 1), none⟩) (hcw (j - 1) (by omega))
                go_region
                all_goals go_wp2
                all_goals go_roundw
                case rel => exact ⟨j - 1, swp dj j (j - 1), by go_num, by omega, hide (hR4.out.swap HG.out j (j - 1) (by omega) (by omega) 1), hide (by rw [← HSS.out]; exact hS.out)⟩
                case measure => simp [intOf]; omega
        · have hk2z : ¬ (2 ≤ (k : Int) - a) := by omega
          go_wp2
          go_meet
          exact hide (by unfold fixDown; rw [if_neg hk2]; exact hR3.out)
      case rest =>
      clear hR3
      have hR3 : Hid (RowAt w blk off d (fixDown ltInt a k d2) wc) := hcut
      obtain ⟨d3, hd3⟩ : ∃ d3, d3 = fixDown ltInt a k d2 := ⟨_, rfl⟩
      rw [← hd3] at hR3 HV
      clear hcut hd3
      go_upto_if 98 with fail
      by_cases hk2 : b - k ≥ 2
      · have hk2z : 2 ≤ (b : Int) - k := by omega
        have HD : Hid (fixUp ltInt b k d3 = shiftUp ltInt b (k + 1) d3) := hide (by unfold fixUp; rw [if_pos hk2])
        go_wp2_with fail
        go_loopw [10] (fun vj wr2 => ∃ (j : Nat) (dj : Array Int), vj = .int .i64 j ∧ k + 1 ≤ j ∧ j ≤ b ∧ Hid (RowAt w blk off d dj wr2) ∧ Hid (shiftUp ltInt b j dj = shiftUp ltInt b (k + 1) d3)) (fun vj _ => b - (intOf vj).toNat)
        case atStart => exact ⟨k + 1, d3, by go_num, Nat.le_refl _, by omega, hR3, hide rfl⟩
        case round =>
          clear hR3
          obtain ⟨j, dj, rfl, hjk, hjb, hR, hS⟩ := hrel
          by_cases hj0 : ¬ j < b
          · have hj0z : ¬ ((j : Int) < b) := by omega
            have hst : shiftUp ltInt b j dj = dj := shiftUp_stop ltInt b j dj (.inl hj0)
            go_wp2
            go_roundw
            case rel => exact ⟨k, s + 1, fixUp ltInt b k d3, rfl, by go_num, by omega, by omega, hkb, hide (by rw [HD.out, ← hS.out, hst]; exact hR.out), hide (by rw [← HV.out]; exact hO.out)⟩
            case measure => simp [intOf]; omega
          · have hj1 : (j : Int) < b := by omega
            obtain ⟨G, HG, hcw, hfw⟩ := hR.out.fam
            go_wp2_with fail
            go_big_quiet (first | (go_at_call 31; refine Calls.quiet_of_same (so_Less _ _ _)))
            go_wp2
            · have hl : ltInt (G j) (G (j - 1)) = false := by
                have h : (!ltInt (G j) (G (j - 1))) = true := by assumption
                simpa using h
              go_roundw
              case rel => exact ⟨k, s + 1, fixUp ltInt b k d3, rfl, by go_num, by omega, by omega, hkb, hide (by rw [HD.out, ← hS.out, shiftUp_stop ltInt b j dj (.inr (by rw [← HG.out, ← HG.out]; exact hl))]; exact hR.out.drewN nq), hide (by rw [← HV.out]; exact hO.out)⟩
              case measure => simp [intOf]; omega
            · have hl : ltInt (G j) (G (j - 1)) = true := by
                have h : (!ltInt (G j) (G (j - 1))) = false := by assumption
                simpa using h
              have hR4 := hide (hR.out.drewN nq)
              generalize wr.drewN nq = w4 at hR4 ⊢
              have HSS : Hid (shiftUp ltInt b j dj = shiftUp ltInt b (j + 1) (swp dj j (j - 1))) := hide (shiftUp_go ltInt b j dj (by omega) (by rw [← HG.out, ← HG.out]; exact hl))
              clear HG hcw hfw hl
              obtain ⟨G, HG, hcw, hfw⟩ := hR4.out.fam
              obtain ⟨v3, hy3⟩ := cell?_setCell_some (w := w4) (p := ⟨blk, off + j, none⟩) (x := .int .u32 (G (j - 1))) (q := ⟨blk, off + (j - 1), none⟩) (hcw (j - 1) (by omega))
              go_region
              all_goals go_wp2
              all_goals go_roundw
              case rel => exact ⟨j + 1, swp dj j (j - 1), by go_num, by omega, by omega, hide (hR4.out.swap HG.out j (j - 1) (by omega) (by omega) 1), hide (by rw [← HSS.out]; exact hS.out)⟩
              case measure => simp [intOf]; omega
      · have hk2z : ¬ (2 ≤ (b : Int) - k) := by omega
        go_wp2
        go_roundw
        case rel => exact ⟨k, s + 1, fixUp ltInt b k d3, rfl, by go_num, by omega, by omega, hkb, hide (by unfold fixUp; rw [if_neg hk2]; exact hR3.out), hide (by rw [← HV.out]; exact hO.out)⟩
        case measure => simp [intOf]; omega
    · obtain rfl : s = 5 := by omega
      go_wp2
      go_ret
      have hv := pi_end ltInt a b i dk
      unfold Sort.partialInsertionSort
      rw [← hO.out, hv]
      exact ⟨rfl, hR.out⟩
end Go.Proofs.Ytjehoingphndnaa
