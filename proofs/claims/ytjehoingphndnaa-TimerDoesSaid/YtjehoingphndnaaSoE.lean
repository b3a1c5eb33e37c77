/-
  The library's sort at uint32: partitionOrdered (printed by gen_so.py).
-/
import Derived.Test.YtjehoingphndnaaSoD
namespace Go.Proofs.Ytjehoingphndnaa
open Go.RowKit Go.Sort
set_option linter.unusedVariables false
set_option linter.unusedSimpArgs false

set_option maxRecDepth 100000 in
set_option maxHeartbeats 6400000 in
theorem so_part (blk off cap a b pivot : Nat) (d : Array Int) (w : World) (hH : Holds encU w blk off d) (hl : blk < w.heap.size) (hap : a ≤ pivot) (hpb : pivot < b) (hb : b ≤ d.size) (hsz : d.size < 1152921504606846976) :
    Calls Try.prog 33 #[.slice (some ⟨blk, off, none⟩) d.size cap, .int .i64 a, .int .i64 b, .int .i64 pivot] w fun e w' => e = .returned (.tuple #[.int .i64 (Sort.partition Sort.ltInt d a b pivot).1, .bool (Sort.partition Sort.ltInt d a b pivot).2.1]) ∧ RowAt w blk off d (Sort.partition Sort.ltInt d a b pivot).2.2 w' := by
  have H0 := hide (RowAt.refl hH hl)
  clear hH
  obtain ⟨G0, HG, hcw, hfw⟩ := H0.out.fam
  obtain ⟨v3, hy3⟩ := cell?_setCell_some (w := w) (p := ⟨blk, off + a, none⟩) (x := .int .u32 (G0 pivot)) (q := ⟨blk, off + pivot, none⟩) (hcw pivot (by omega))
  go_enter Try.func33, Try.ntmps33
  go_wp2
  go_region
  all_goals go_upto_block 0 with fail
  have hR := hide (H0.out.swap HG.out a pivot (by omega) (by omega) 1)
  obtain ⟨i, hi⟩ : ∃ i, i = a + 1 := ⟨_, rfl⟩
  obtain ⟨j, hj⟩ : ∃ j, j = b - 1 := ⟨_, rfl⟩
  obtain ⟨dk, hdk⟩ : ∃ dk, dk = swp d a pivot := ⟨_, rfl⟩
  rw [← hdk] at hR
  rw [show ((a : Int) + 1) = ((i : Nat) : Int) by omega, show ((b : Int) - 1) = ((j : Nat) : Int) by omega]
  have HDK := hide hdk
  have HII := hide hi
  have HJJ := hide hj
  have hij : i ≤ j + 1 := by omega
  have hai : a < i := by omega
  have hjb : j < b := by omega
  clear HG hcw hfw hy3 hdk hi hj
  go_upto_block 0 with fail
  go_cut [10] (fun s wx => ∃ i2 : Nat, s = .int .i64 i2 ∧ i ≤ i2 ∧ i2 ≤ j + 1 ∧ Hid (RowAt w blk off d dk wx) ∧ Hid (i2 = scanUp (fun x => ltInt x dk[a]!) dk j i))
  case first =>
    go_wp2_with fail
    go_loopw [10] (fun v wr => ∃ i2 : Nat, v = .int .i64 i2 ∧ i ≤ i2 ∧ i2 ≤ j + 1 ∧ Hid (RowAt w blk off d dk wr) ∧ Hid (scanUp (fun x => ltInt x dk[a]!) dk j i2 = scanUp (fun x => ltInt x dk[a]!) dk j i)) (fun v _ => j + 1 - (intOf v).toNat)
    case atStart => exact ⟨i, rfl, Nat.le_refl _, hij, hR, hide rfl⟩
    case round =>
      clear hR
      obtain ⟨i2, rfl, hi1, hi2, hR, hS⟩ := hrel
      obtain ⟨G, HG, hcw, hfw⟩ := hR.out.fam
      by_cases hle : i2 ≤ j
      · go_wp2_with fail
        go_big_quiet (first | (go_at_call 31; refine Calls.quiet_of_same (so_Less _ _ _)))
        go_wp2
        · have ht : ltInt (G i2) (G a) = true := by assumption
          go_roundw
          case rel => exact ⟨i2 + 1, by go_num, by omega, by omega, hide (hR.out.drewN nq), hide ((scanUp_go (fun x => ltInt x dk[a]!) dk j i2 hle (by rw [← HG.out a, ← HG.out i2]; exact ht)).symm.trans hS.out)⟩
          case measure => simp [intOf]; omega
        · have ht : ltInt (G i2) (G a) = false := by assumption
          go_meet
          exact ⟨i2, rfl, hi1, hi2, hide (hR.out.drewN nq), hide ((scanUp_end (fun x => ltInt x dk[a]!) dk j i2 (Or.inr (by rw [← HG.out a, ← HG.out i2]; exact ht))).symm.trans hS.out)⟩
      · go_wp2_with fail
        go_big_quiet (first | (go_at_call 31; refine Calls.quiet_of_same (so_Less _ _ _)))
        go_wp2
        go_meet
        exact ⟨i2, rfl, hi1, hi2, hide (hR.out.drewN nq), hide ((scanUp_end (fun x => ltInt x dk[a]!) dk j i2 (Or.inl hle)).symm.trans hS.out)⟩
  case rest =>
  clear hR
  obtain ⟨i2, rfl, hi1, hi2, hR, hI⟩ := hcut
  go_upto_block 2 with fail
  go_cut [11] (fun s wx => ∃ j2 : Nat, s = .int .i64 j2 ∧ j2 ≤ j ∧ i2 ≤ j2 + 1 ∧ Hid (RowAt w blk off d dk wx) ∧ Hid (j2 = scanDown (fun x => !ltInt x dk[a]!) dk i2 j))
  case first =>
    go_wp2_with fail
    go_loopw [11] (fun v wr => ∃ j2 : Nat, v = .int .i64 j2 ∧ j2 ≤ j ∧ i2 ≤ j2 + 1 ∧ Hid (RowAt w blk off d dk wr) ∧ Hid (scanDown (fun x => !ltInt x dk[a]!) dk i2 j2 = scanDown (fun x => !ltInt x dk[a]!) dk i2 j)) (fun v _ => (intOf v).toNat)
    case atStart => exact ⟨j, rfl, Nat.le_refl _, hi2, hR, hide rfl⟩
    case round =>
      clear hR
      obtain ⟨j2, rfl, hj1, hj2, hR, hS⟩ := hrel
      obtain ⟨G, HG, hcw, hfw⟩ := hR.out.fam
      by_cases hle : i2 ≤ j2
      · go_wp2_with fail
        go_big_quiet (first | (go_at_call 31; refine Calls.quiet_of_same (so_Less _ _ _)))
        go_wp2
        · have ht : (!ltInt (G j2) (G a)) = true := by assumption
          go_roundw
          case rel => exact ⟨j2 - 1, by go_num, by omega, by omega, hide (hR.out.drewN nq), hide ((scanDown_go (fun x => !ltInt x dk[a]!) dk i2 j2 hle (by omega) (by rw [← HG.out a, ← HG.out j2]; exact ht)).symm.trans hS.out)⟩
          case measure => simp [intOf]; omega
        · have ht : (!ltInt (G j2) (G a)) = false := by assumption
          go_meet
          exact ⟨j2, rfl, hj1, hj2, hide (hR.out.drewN nq), hide ((scanDown_end (fun x => !ltInt x dk[a]!) dk i2 j2 (Or.inr (by rw [← HG.out a, ← HG.out j2]; exact ht))).symm.trans hS.out)⟩
      · go_wp2_with fail
        go_big_quiet (first | (go_at_call 31; refine Calls.quiet_of_same (so_Less _ _ _)))
        go_wp2
        go_meet
        exact ⟨j2, rfl, hj1, hj2, hide (hR.out.drewN nq), hide ((scanDown_end (fun x => !ltInt x dk[a]!) dk i2 j2 (Or.inl hle)).symm.trans hS.out)⟩
  case rest =>
  clear hR
  obtain ⟨j2, rfl, hj1, hj2, hR, hJ⟩ := hcut
  obtain ⟨G, HG, hcw, hfw⟩ := hR.out.fam
  by_cases hgt : j2 < i2
  · obtain ⟨v4, hy4⟩ := cell?_setCell_some (w := wc) (p := ⟨blk, off + j2, none⟩) (x := .int .u32 (G a)) (q := ⟨blk, off + a, none⟩) (hcw a (by omega))
    go_wp2
    go_region
    all_goals go_wp2
    go_ret2
    have e := part_first_break ltInt d a b pivot HII.out HJJ.out HDK.out hI.out hJ.out hgt
    rw [e]
    exact ⟨rfl, hR.out.swap HG.out j2 a (by omega) (by omega) 1⟩
  · have hlt := part_scans_lt ltInt a i j dk (by omega) hI.out hJ.out (by omega)
    obtain ⟨v4, hy4⟩ := cell?_setCell_some (w := wc) (p := ⟨blk, off + i2, none⟩) (x := .int .u32 (G j2)) (q := ⟨blk, off + j2, none⟩) (hcw j2 (by omega))
    have HF : Hid _ := hide (part_first_go ltInt d a b pivot HII.out HJJ.out HDK.out hI.out hJ.out hgt)
    obtain ⟨i3, hi3⟩ : ∃ i3, i3 = i2 + 1 := ⟨_, rfl⟩
    obtain ⟨j3, hj3⟩ : ∃ j3, j3 = j2 - 1 := ⟨_, rfl⟩
    obtain ⟨d3, hd3⟩ : ∃ d3, d3 = swp dk i2 j2 := ⟨_, rfl⟩
    go_wp2
    go_region
    all_goals go_wp2
    have hR3 := hide (hR.out.swap HG.out i2 j2 (by omega) (by omega) 1)
    rw [← hd3] at hR3
    rw [← hi3, ← hj3, ← hd3] at HF
    have HD3 := hide hd3
    clear HG hcw hfw hy4 hd3 hI hJ hR
    go_loopw [10, 11] (fun vi vj wr => ∃ (i j : Nat) (dk : Array Int), vi = .int .i64 i ∧ vj = .int .i64 j ∧ a < i ∧ i ≤ j + 1 ∧ j < b ∧ Hid (RowAt w blk off d dk wr) ∧ Hid (partLoop ltInt a i j dk = partLoop ltInt a i3 j3 d3))
      (fun vi vj _ => (intOf vj).toNat + 1 - (intOf vi).toNat)
    case atStart => exact ⟨i3, j3, d3, by rw [hi3]; go_num, by rw [hj3]; go_num, by omega, by omega, by omega, hR3, hide rfl⟩
    case round =>
      clear hR3 H0 v3 v4 hi1 hi2 hj1 hj2 hgt hlt hij hai hjb
      clear HDK HII HJJ HD3
      obtain ⟨i, j, dk, rfl, rfl, hai, hij, hjb, hR, hE⟩ := hrel
      go_upto_block 6 with fail
      go_cut [10] (fun s wx => ∃ i2 : Nat, s = .int .i64 i2 ∧ i ≤ i2 ∧ i2 ≤ j + 1 ∧ Hid (RowAt w blk off d dk wx) ∧ Hid (i2 = scanUp (fun x => ltInt x dk[a]!) dk j i))
      case first =>
        go_wp2_with fail
        go_loopw [10] (fun v wr => ∃ i2 : Nat, v = .int .i64 i2 ∧ i ≤ i2 ∧ i2 ≤ j + 1 ∧ Hid (RowAt w blk off d dk wr) ∧ Hid (scanUp (fun x => ltInt x dk[a]!) dk j i2 = scanUp (fun x => ltInt x dk[a]!) dk j i)) (fun v _ => j + 1 - (intOf v).toNat)
        case atStart => exact ⟨i, rfl, Nat.le_refl _, hij, hR, hide rfl⟩
        case round =>
          clear hR
          obtain ⟨i2, rfl, hi1, hi2, hR, hS⟩ := hrel
          obtain ⟨G, HG, hcw, hfw⟩ := hR.out.fam
          by_cases hle : i2 ≤ j
          · go_wp2_with fail
            go_big_quiet (first | (go_at_call 31; refine Calls.quiet_of_same (so_Less _ _ _)))
            go_wp2
            · have ht : ltInt (G i2) (G a) = true := by assumption
              go_roundw
              case rel => exact ⟨i2 + 1, by go_num, by omega, by omega, hide (hR.out.drewN nq), hide ((scanUp_go (fun x => ltInt x dk[a]!) dk j i2 hle (by rw [← HG.out a, ← HG.out i2]; exact ht)).symm.trans hS.out)⟩
              case measure => simp [intOf]; omega
            · have ht : ltInt (G i2) (G a) = false := by assumption
              go_meet
              exact ⟨i2, rfl, hi1, hi2, hide (hR.out.drewN nq), hide ((scanUp_end (fun x => ltInt x dk[a]!) dk j i2 (Or.inr (by rw [← HG.out a, ← HG.out i2]; exact ht))).symm.trans hS.out)⟩
          · go_wp2_with fail
            go_big_quiet (first | (go_at_call 31; refine Calls.quiet_of_same (so_Less _ _ _)))
            go_wp2
            go_meet
            exact ⟨i2, rfl, hi1, hi2, hide (hR.out.drewN nq), hide ((scanUp_end (fun x => ltInt x dk[a]!) dk j i2 (Or.inl hle)).symm.trans hS.out)⟩
      case rest =>
      clear hR
      obtain ⟨i2, rfl, hi1, hi2, hR, hI⟩ := hcut
      go_upto_block 8 with fail
      go_cut [11] (fun s wx => ∃ j2 : Nat, s = .int .i64 j2 ∧ j2 ≤ j ∧ i2 ≤ j2 + 1 ∧ Hid (RowAt w blk off d dk wx) ∧ Hid (j2 = scanDown (fun x => !ltInt x dk[a]!) dk i2 j))
      case first =>
        go_wp2_with fail
        go_loopw [11] (fun v wr => ∃ j2 : Nat, v = .int .i64 j2 ∧ j2 ≤ j ∧ i2 ≤ j2 + 1 ∧ Hid (RowAt w blk off d dk wr) ∧ Hid (scanDown (fun x => !ltInt x dk[a]!) dk i2 j2 = scanDown (fun x => !ltInt x dk[a]!) dk i2 j)) (fun v _ => (intOf v).toNat)
        case atStart => exact ⟨j, rfl, Nat.le_refl _, hi2, hR, hide rfl⟩
        case round =>
          clear hR
          obtain ⟨j2, rfl, hj1, hj2, hR, hS⟩ := hrel
          obtain ⟨G, HG, hcw, hfw⟩ := hR.out.fam
          by_cases hle : i2 ≤ j2
          · go_wp2_with fail
            go_big_quiet (first | (go_at_call 31; refine Calls.quiet_of_same (so_Less _ _ _)))
            go_wp2
            · have ht : (!ltInt (G j2) (G a)) = true := by assumption
              go_roundw
              case rel => exact ⟨j2 - 1, by go_num, by omega, by omega, hide (hR.out.drewN nq), hide ((scanDown_go (fun x => !ltInt x dk[a]!) dk i2 j2 hle (by omega) (by rw [← HG.out a, ← HG.out j2]; exact ht)).symm.trans hS.out)⟩
              case measure => simp [intOf]; omega
            · have ht : (!ltInt (G j2) (G a)) = false := by assumption
              go_meet
              exact ⟨j2, rfl, hj1, hj2, hide (hR.out.drewN nq), hide ((scanDown_end (fun x => !ltInt x dk[a]!) dk i2 j2 (Or.inr (by rw [← HG.out a, ← HG.out j2]; exact ht))).symm.trans hS.out)⟩
          · go_wp2_with fail
            go_big_quiet (first | (go_at_call 31; refine Calls.quiet_of_same (so_Less _ _ _)))
            go_wp2
            go_meet
            exact ⟨j2, rfl, hj1, hj2, hide (hR.out.drewN nq), hide ((scanDown_end (fun x => !ltInt x dk[a]!) dk i2 j2 (Or.inl hle)).symm.trans hS.out)⟩
      case rest =>
      clear hR
      obtain ⟨j2, rfl, hj1, hj2, hR, hJ⟩ := hcut
      obtain ⟨G, HG, hcw, hfw⟩ := hR.out.fam
      by_cases hgt : j2 < i2
      · obtain ⟨v4, hy4⟩ := cell?_setCell_some (w := wc) (p := ⟨blk, off + j2, none⟩) (x := .int .u32 (G a)) (q := ⟨blk, off + a, none⟩) (hcw a (by omega))
        go_wp2
        go_region
        all_goals go_wp2
        go_ret2
        have e := part_break ltInt a i j dk hI.out hJ.out hgt
        rw [hE.out] at e
        rw [HF.out, e]
        exact ⟨rfl, hR.out.swap HG.out j2 a (by omega) (by omega) 1⟩
      · have hlt := part_scans_lt ltInt a i j dk (by omega) hI.out hJ.out (by omega)
        obtain ⟨v4, hy4⟩ := cell?_setCell_some (w := wc) (p := ⟨blk, off + i2, none⟩) (x := .int .u32 (G j2)) (q := ⟨blk, off + j2, none⟩) (hcw j2 (by omega))
        go_wp2
        go_region
        all_goals go_wp2
        all_goals go_roundw
        case rel => exact ⟨i2 + 1, j2 - 1, swp dk i2 j2, by go_num, by go_num, by omega, by omega, by omega, hide (hR.out.swap HG.out i2 j2 (by omega) (by omega) 1), hide ((part_go ltInt a i j dk hI.out hJ.out hgt).symm.trans hE.out)⟩
        case measure => simp [intOf]; omega
end Go.Proofs.Ytjehoingphndnaa
