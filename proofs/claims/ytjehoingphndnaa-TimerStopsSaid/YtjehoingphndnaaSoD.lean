/-
  The library's sort at uint32: the two partitions.
-/
import Derived.Test.YtjehoingphndnaaSoA
import Derived.Sort.WalkC4
import Derived.Deep.DeepCutAuto
import Derived.Deep.CutBlock
namespace Go.Proofs.Ytjehoingphndnaa
open Go.RowKit Go.Sort
set_option linter.unusedVariables false
set_option linter.unusedSimpArgs false

set_option maxRecDepth 100000 in
set_option maxHeartbeats 6400000 in
theorem so_partEq (blk off cap a b pivot : Nat) (d : Array Int) (w : World) (hH : Holds encU w blk off d) (hl : blk < w.heap.size) (hap : a ≤ pivot) (hpb : pivot < b) (hb : b ≤ d.size) (hsz : d.size < 1152921504606846976) :
    Calls Try.prog 32 #[.slice (some ⟨blk, off, none⟩) d.size cap, .int .i64 a, .int .i64 b, .int .i64 pivot] w fun e w' => e = .returned (.int .i64 (Sort.partitionEqual Sort.ltInt d a b pivot).1) ∧ RowAt w blk off d (Sort.partitionEqual Sort.ltInt d a b pivot).2 w' := by
  have H0 := hide (RowAt.refl hH hl)
  clear hH
  obtain ⟨G, HG, hcw, hfw⟩ := H0.out.fam
  obtain ⟨v3, hy3⟩ := cell?_setCell_some (w := w) (p := ⟨blk, off + a, none⟩) (x := .int .u32 (G pivot)) (q := ⟨blk, off + pivot, none⟩) (hcw pivot (by omega))
  go_enter Try.func32, Try.ntmps32
  go_wp2
  go_region
  all_goals go_wp2
  have hR0 := hide (H0.out.swap HG.out a pivot (by omega) (by omega) 1)
  clear HG hcw hfw hy3
  go_loopw [9, 10] (fun vi vj wr => ∃ (i j : Nat) (dk : Array Int), vi = .int .i64 i ∧ vj = .int .i64 j ∧ a < i ∧ i ≤ j + 1 ∧ j < b ∧ Hid (RowAt w blk off d dk wr) ∧ Hid (partEqLoop ltInt a i j dk = partEqLoop ltInt a (a + 1) (b - 1) (swp d a pivot)))
    (fun vi vj _ => (intOf vj).toNat + 1 - (intOf vi).toNat)
  case atStart => exact ⟨a + 1, b - 1, _, by go_num, by go_num, by omega, by omega, by omega, hR0, hide rfl⟩
  case round =>
    clear hR0 H0 v3
    rename Nat → Int => G0
    obtain ⟨i, j, dk, rfl, rfl, hai, hij, hjb, hR, hE⟩ := hrel
    go_upto_block 2 with fail
    go_cut [9] (fun s wx => ∃ i2 : Nat, s = .int .i64 i2 ∧ i ≤ i2 ∧ i2 ≤ j + 1 ∧ Hid (RowAt w blk off d dk wx) ∧ Hid (i2 = scanUp (fun x => !ltInt dk[a]! x) dk j i))
    case first =>
      go_wp2_with fail
      go_loopw [9] (fun vi wr => ∃ i2 : Nat, vi = .int .i64 i2 ∧ i ≤ i2 ∧ i2 ≤ j + 1 ∧ Hid (RowAt w blk off d dk wr) ∧ Hid (scanUp (fun x => !ltInt dk[a]! x) dk j i2 = scanUp (fun x => !ltInt dk[a]! x) dk j i)) (fun vi _ => j + 1 - (intOf vi).toNat)
      case atStart => exact ⟨i, rfl, Nat.le_refl _, hij, hR, hide rfl⟩
      case round =>
        clear hR
        obtain ⟨i2, rfl, hi1, hi2, hR, hS⟩ := hrel
        obtain ⟨G, HG, hcw, hfw⟩ := hR.out.fam
        by_cases hle : i2 ≤ j
        · go_wp2_with fail
          go_big_quiet (first | (go_at_call 31; refine Calls.quiet_of_same (so_Less _ _ _)))
          go_wp2
          · have ht : (!ltInt (G a) (G i2)) = true := by assumption
            go_roundw
            case rel => exact ⟨i2 + 1, by go_num, by omega, by omega, hide (hR.out.drewN nq), hide ((scanUp_go (fun x => !ltInt dk[a]! x) dk j i2 hle (by rw [← HG.out a, ← HG.out i2]; exact ht)).symm.trans hS.out)⟩
            case measure => simp [intOf]; omega
          · have ht : (!ltInt (G a) (G i2)) = false := by assumption
            go_meet
            exact ⟨i2, rfl, hi1, hi2, hide (hR.out.drewN nq), hide ((scanUp_end (fun x => !ltInt dk[a]! x) dk j i2 (Or.inr (by rw [← HG.out a, ← HG.out i2]; exact ht))).symm.trans hS.out)⟩
        · go_wp2_with fail
          go_big_quiet (first | (go_at_call 31; refine Calls.quiet_of_same (so_Less _ _ _)))
          go_wp2
          go_meet
          exact ⟨i2, rfl, hi1, hi2, hide (hR.out.drewN nq), hide ((scanUp_end (fun x => !ltInt dk[a]! x) dk j i2 (Or.inl hle)).symm.trans hS.out)⟩
    case rest =>
    clear hR
    obtain ⟨i2, rfl, hi1, hi2, hR, hI⟩ := hcut
    go_upto_block 4 with fail
    go_cut [10] (fun s wx => ∃ j2 : Nat, s = .int .i64 j2 ∧ j2 ≤ j ∧ i2 ≤ j2 + 1 ∧ Hid (RowAt w blk off d dk wx) ∧ Hid (j2 = scanDown (fun x => ltInt dk[a]! x) dk i2 j))
    case first =>
      go_wp2_with fail
      go_loopw [10] (fun vj wr => ∃ j2 : Nat, vj = .int .i64 j2 ∧ j2 ≤ j ∧ i2 ≤ j2 + 1 ∧ Hid (RowAt w blk off d dk wr) ∧ Hid (scanDown (fun x => ltInt dk[a]! x) dk i2 j2 = scanDown (fun x => ltInt dk[a]! x) dk i2 j)) (fun vj _ => (intOf vj).toNat)
      case atStart => exact ⟨j, rfl, Nat.le_refl _, hi2, hR, hide rfl⟩
      case round =>
        clear hR
        obtain ⟨j2, rfl, hj1, hj2, hR, hS⟩ := hrel
        obtain ⟨G, HG, hcw, hfw⟩ := hR.out.fam
        by_cases hle : i2 ≤ j2
        · go_wp2_with fail
          go_big_quiet (first | (go_at_call 31; refine Calls.quiet_of_same (so_Less _ _ _)))
          go_wp2
          · have ht : ltInt (G a) (G j2) = true := by assumption
            go_roundw
            case rel => exact ⟨j2 - 1, by go_num, by omega, by omega, hide (hR.out.drewN nq), hide ((scanDown_go (fun x => ltInt dk[a]! x) dk i2 j2 hle (by omega) (by rw [← HG.out a, ← HG.out j2]; exact ht)).symm.trans hS.out)⟩
            case measure => simp [intOf]; omega
          · have ht : ltInt (G a) (G j2) = false := by assumption
            go_meet
            exact ⟨j2, rfl, hj1, hj2, hide (hR.out.drewN nq), hide ((scanDown_end (fun x => ltInt dk[a]! x) dk i2 j2 (Or.inr (by rw [← HG.out a, ← HG.out j2]; exact ht))).symm.trans hS.out)⟩
        · go_wp2_with fail
          go_big_quiet (first | (go_at_call 31; refine Calls.quiet_of_same (so_Less _ _ _)))
          go_wp2
          go_meet
          exact ⟨j2, rfl, hj1, hj2, hide (hR.out.drewN nq), hide ((scanDown_end (fun x => ltInt dk[a]! x) dk i2 j2 (Or.inl hle)).symm.trans hS.out)⟩
    case rest =>
    clear hR
    obtain ⟨j2, rfl, hj1, hj2, hR, hJ⟩ := hcut
    obtain ⟨G, HG, hcw, hfw⟩ := hR.out.fam
    by_cases hgt : j2 < i2
    · go_wp2
      go_ret
      have e := partEq_break ltInt a i j dk hI.out hJ.out hgt
      unfold Sort.partitionEqual
      rw [← hE.out, e]
      exact ⟨rfl, hR.out⟩
    · have hlt := scans_lt ltInt a i j dk (by omega) hI.out hJ.out (by omega)
      obtain ⟨v3, hy3⟩ := cell?_setCell_some (w := wc) (p := ⟨blk, off + i2, none⟩) (x := .int .u32 (G j2)) (q := ⟨blk, off + j2, none⟩) (hcw j2 (by omega))
      go_wp2
      go_region
      all_goals go_wp2
      all_goals go_roundw
      case rel => exact ⟨i2 + 1, j2 - 1, swp dk i2 j2, by go_num, by go_num, by omega, by omega, by omega, hide (hR.out.swap HG.out i2 j2 (by omega) (by omega) 1), hide ((partEq_go ltInt a i j dk hI.out hJ.out hgt).symm.trans hE.out)⟩
      case measure => simp [intOf]; omega
end Go.Proofs.Ytjehoingphndnaa
