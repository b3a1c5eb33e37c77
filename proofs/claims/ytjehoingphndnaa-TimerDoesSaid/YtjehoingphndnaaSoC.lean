/-
  The library's sort at uint32: the heap.
-/
import Derived.Test.YtjehoingphndnaaSoA
import Derived.Sort.WalkB3
import Derived.Deep.DeepCutAuto
namespace Go.Proofs.Ytjehoingphndnaa
open Go.RowKit Go.Sort
set_option linter.unusedVariables false
set_option linter.unusedSimpArgs false

/-- the child that is taken -/
def Taken (hi F r c : Nat) (dk : Array Int) : Prop := (c = 2 * r + 2 ∧ 2 * r + 2 < hi ∧ ltInt dk[F + (2 * r + 1)]! dk[F + (2 * r + 2)]! = true) ∨ (c = 2 * r + 1 ∧ 2 * r + 1 < hi ∧ (2 * r + 2 < hi → ltInt dk[F + (2 * r + 1)]! dk[F + (2 * r + 2)]! = false))
theorem taken_lt {hi F r c : Nat} {dk : Array Int} (h : Taken hi F r c dk) : c < hi ∧ r < c ∧ c ≤ 2 * r + 2 := by unfold Taken at h; omega
theorem taken_stop {hi F r c : Nat} {dk : Array Int} (h : Taken hi F r c dk) (h3 : ltInt dk[F + r]! dk[F + c]! = false) : siftDown ltInt hi F r dk = dk := by
  rcases h with ⟨rfl, h1, h2⟩ | ⟨rfl, h1, h2⟩
  · exact sd_right_stop _ _ h1 h2 h3
  · exact sd_left_stop _ _ h1 h2 h3
theorem taken_go {hi F r c : Nat} {dk : Array Int} (h : Taken hi F r c dk) (h3 : ltInt dk[F + r]! dk[F + c]! = true) : siftDown ltInt hi F r dk = siftDown ltInt hi F c (swp dk (F + r) (F + c)) := by
  rcases h with ⟨rfl, h1, h2⟩ | ⟨rfl, h1, h2⟩
  · exact sd_right_go _ _ h1 h2 h3
  · exact sd_left_go _ _ h1 h2 h3

set_option maxRecDepth 100000 in
set_option maxHeartbeats 3200000 in
theorem so_sift (blk off cap lo hi F : Nat) (d : Array Int) (w : World) (hH : Holds encU w blk off d) (hl : blk < w.heap.size) (hlo : lo ≤ hi) (hb : F + hi ≤ d.size) (hsz : d.size < 1152921504606846976) :
    Calls Try.prog 36 #[.slice (some ⟨blk, off, none⟩) d.size cap, .int .i64 lo, .int .i64 hi, .int .i64 F] w fun e w' => e = .returned (.tuple #[]) ∧ RowAt w blk off d (siftDown ltInt hi F lo d) w' := by
  have H0 := hide (RowAt.refl hH hl)
  clear hH
  go_enter Try.func36, Try.ntmps36
  go_wp2
  go_loopw [8] (fun vr wr => ∃ (r : Nat) (dk : Array Int), vr = .int .i64 r ∧ r ≤ hi ∧ Hid (RowAt w blk off d dk wr) ∧ Hid (siftDown ltInt hi F r dk = siftDown ltInt hi F lo d)) (fun vr _ => hi - (intOf vr).toNat)
  case atStart => exact ⟨lo, d, rfl, hlo, H0, hide rfl⟩
  case round =>
    obtain ⟨r, dk, rfl, hr, hR, hE⟩ := hrel
    obtain ⟨G, HG, hcw, hfw⟩ := hR.out.fam
    by_cases hend : hi ≤ 2 * r + 1
    · go_wp2
      go_end0
      refine ⟨rfl, ?_⟩
      rw [← hE.out, sd_end _ _ hend]
      exact hR.out
    go_upto_region 3 with fail
    go_cut [36] (fun s wx => ∃ g : Bool, s = .bool g ∧ Hid (RowAt w blk off d dk wx) ∧ Hid (Taken hi F r (if g then 2 * r + 2 else 2 * r + 1) dk))
    case first =>
      by_cases h1 : 2 * r + 2 < hi
      · have h1z : 2 * (r : Int) + 1 + 1 < (hi : Int) := by omega
        have h1y : decide (2 * (r : Int) + 1 + 1 < (hi : Int)) = true := by simpa using h1z
        go_wp2_with fail
        go_big_quiet (first | (go_at_call 31; refine Calls.quiet_of_same (so_Less _ _ _)))
        go_wp2_with fail
        go_meet
        refine ⟨_, rfl, hide (hR.out.drewN nq), hide ?_⟩
        rw [HG.out, HG.out]
        cases hg : ltInt dk[F + 2 * r + 1]! dk[F + 2 * r + 2]! with
        | true => exact .inl ⟨rfl, h1, hg⟩
        | false => exact .inr ⟨rfl, by omega, fun _ => hg⟩
      · have h1y : decide (2 * (r : Int) + 1 + 1 < (hi : Int)) = false := by simp; omega
        go_wp2_with fail
        go_big_quiet (first | (go_at_call 31; refine Calls.quiet_of_same (so_Less _ _ _)))
        go_wp2_with fail
        go_meet
        exact ⟨false, rfl, hide (hR.out.drewN nq), hide (.inr ⟨rfl, by omega, fun h => absurd h h1⟩)⟩
    case rest =>
    obtain ⟨g, rfl, hR2, hT⟩ := hcut
    go_upto_if 36 with fail
    go_cut [9] (fun s wx => ∃ c : Nat, s = .int .i64 c ∧ Hid (RowAt w blk off d dk wx) ∧ Hid (Taken hi F r c dk))
    case first =>
      cases g with
      | true => go_wp2; go_meet; exact ⟨2 * r + 2, by go_num, hR2, hT⟩
      | false => go_wp2; go_meet; exact ⟨2 * r + 1, by go_num, hR2, hT⟩
    case rest =>
    obtain ⟨c, rfl, hR3, hT⟩ := hcut
    clear HG hcw hfw hR hR2
    obtain ⟨G, HG, hcw, hfw⟩ := hR3.out.fam
    have hc := taken_lt hT.out
    go_wp2_with fail
    go_big_quiet (first | (go_at_call 31; refine Calls.quiet_of_same (so_Less _ _ _)))
    go_wp2_with fail
    · have hS : ltInt (G (F + r)) (G (F + c)) = false := by
        have : (!ltInt (G (F + r)) (G (F + c))) = true := by assumption
        simpa using this
      (try simp only [Exit.inBlock, Exit.then])
      refine bodyPost_ret (results_none rfl _ _ _) rfl ?_
      refine ⟨rfl, ?_⟩
      rw [← hE.out, taken_stop hT.out (by rw [← HG.out, ← HG.out]; exact hS)]
      exact hR3.out.drewN nq
    · have hS : ltInt (G (F + r)) (G (F + c)) = true := by
        have : (!ltInt (G (F + r)) (G (F + c))) = false := by assumption
        simpa using this
      have hR4 := hide (hR3.out.drewN nq)
      have HS : Hid (siftDown ltInt hi F r dk = siftDown ltInt hi F c (swp dk (F + r) (F + c))) := hide (taken_go hT.out (by rw [← HG.out, ← HG.out]; exact hS))
      clear HG hcw hfw hR3 hT hS
      generalize wc.drewN nq = w4 at hR4 ⊢
      obtain ⟨G, HG, hcw, hfw⟩ := hR4.out.fam
      obtain ⟨v3, hy3⟩ := cell?_setCell_some (w := w4) (p := ⟨blk, off + (F + r), none⟩) (x := .int .u32 (G (F + c))) (q := ⟨blk, off + (F + c), none⟩) (hcw (F + c) (by omega))
      go_region
      all_goals go_wp2
      all_goals go_roundw
      case rel => exact ⟨c, swp dk (F + r) (F + c), rfl, by omega, hide (hR4.out.swap HG.out _ _ (by omega) (by omega) 1), hide (by rw [← HS.out]; exact hE.out)⟩
      case measure => simp [intOf]; omega

theorem so_siftI (blk off cap : Nat) (lo hi F : Int) (d : Array Int) (w : World) (hH : Holds encU w blk off d) (hl : blk < w.heap.size) (hlo : 0 ≤ lo ∧ lo ≤ hi) (hF : 0 ≤ F) (hb : F + hi ≤ d.size) (hsz : d.size < 1152921504606846976) (n : Nat) (hn : d.size = n) :
    Calls Try.prog 36 #[.slice (some ⟨blk, off, none⟩) n cap, .int .i64 lo, .int .i64 hi, .int .i64 F] w fun e w' => e = .returned (.tuple #[]) ∧ RowAt w blk off d (siftDown ltInt hi.toNat F.toNat lo.toNat d) w' := by
  subst hn
  have h := so_sift blk off cap lo.toNat hi.toNat F.toNat d w hH hl (by omega) (by omega) hsz
  rw [Int.toNat_of_nonneg hlo.1, Int.toNat_of_nonneg (by omega), Int.toNat_of_nonneg hF] at h
  exact h

set_option maxRecDepth 100000 in
set_option maxHeartbeats 3200000 in
theorem so_heap (blk off cap a b : Nat) (d : Array Int) (w : World) (hH : Holds encU w blk off d) (hl : blk < w.heap.size) (hab : a ≤ b) (hb : b ≤ d.size) (hsz : d.size < 1152921504606846976) :
    Calls Try.prog 26 #[.slice (some ⟨blk, off, none⟩) d.size cap, .int .i64 a, .int .i64 b] w fun e w' => e = .returned (.tuple #[]) ∧ RowAt w blk off d (Sort.heapSort ltInt d a b) w' := by
  have H0 := hide (RowAt.refl hH hl)
  have hh := half_start hab
  obtain ⟨K, hK⟩ : ∃ K, K = (b - a - 1) / 2 + 1 := ⟨_, rfl⟩
  rw [← hK] at hh
  have HK := hide hK
  have hKb : K ≤ (b - a) + 1 := by omega
  have hw1 : IntKind.i64.wrap ((b : Int) - a) = (b : Int) - a := by unfold IntKind.wrap; simp [IntKind.bits, IntKind.signed]; omega
  clear hH hK
  go_enter Try.func26, Try.ntmps26
  go_wp2
  go_loopw [9] (fun vi wr => ∃ (k : Nat) (dk : Array Int), vi = .int .i64 ((k : Int) - 1) ∧ k ≤ (b - a) + 1 ∧ Hid (RowAt w blk off d dk wr) ∧ Hid (heapBuild ltInt (b - a) a k dk = heapBuild ltInt (b - a) a K d)) (fun vi _ => (intOf vi + 1).toNat)
  case atStart => exact ⟨K, d, rfl, hKb, H0, hide rfl⟩
  case round =>
    obtain ⟨k, dk, rfl, hk, hR, hE⟩ := hrel
    cases k with
    | zero =>
      rw [show (((0 : Nat) : Int) - 1) = -1 by omega]
      go_wp2
      have hE2 : Hid (heapBuild ltInt (b - a) a K d = dk) := hide hE.out.symm
      clear hE H0 hh
      obtain ⟨D1, hD1⟩ : ∃ D1, D1 = heapBuild ltInt (b - a) a K d := ⟨_, rfl⟩
      have hDD : dk = D1 := hE2.out.symm.trans hD1.symm
      subst hDD
      go_loopw [10] (fun vi wr => ∃ (k : Nat) (dj : Array Int), vi = .int .i64 ((k : Int) - 1) ∧ k ≤ b - a ∧ Hid (RowAt w blk off d dj wr) ∧ Hid (heapPop ltInt a k dj = heapPop ltInt a (b - a) dk)) (fun vi _ => (intOf vi + 1).toNat)
      case atStart => exact ⟨b - a, dk, by congr 1; omega, Nat.le_refl _, hR, hide rfl⟩
      case round =>
        clear hR
        obtain ⟨k, dj, rfl, hk, hR, hE⟩ := hrel
        cases k with
        | zero =>
          go_wp2
          go_end0
          refine ⟨rfl, ?_⟩
          unfold Sort.heapSort
          rw [← HK.out, hE2.out, ← hE.out]
          exact hR.out
        | succ i =>
          obtain ⟨G, HG, hcw, hfw⟩ := hR.out.fam
          obtain ⟨v3, hy3⟩ := cell?_setCell_some (w := wr) (p := ⟨blk, off + a, none⟩) (x := .int .u32 (G (a + i))) (q := ⟨blk, off + (a + i), none⟩) (hcw (a + i) (by omega))
          rw [show (((i + 1 : Nat) : Int) - 1) = (i : Int) by omega]
          go_wp2_with fail
          go_region
          all_goals go_wp2_with fail
          have hR2 := hide (hR.out.swap HG.out a (a + i) (by omega) (by omega) 1)
          have HS : Hid ((swp dj a (a + i)).size = d.size) := hide hR2.out.size
          refine (so_siftI blk off cap _ _ _ (swp dj a (a + i)) _ (hR2.out.there : _) hR2.out.lowr ?_ ?_ ?_ ?_ _ HS.out).mono ?_
          · omega
          · omega
          · have := HS.out; omega
          · have := HS.out; omega
          rintro e w2 ⟨rfl, hR3⟩
          have HR3 := hide (hR2.out.trans hR3)
          clear hR3
          go_wp2
          go_roundw
          case rel => exact ⟨i, _, by go_num, by omega, HR3, hide (by rw [← hE.out, heapPop]; congr 2 <;> omega)⟩
          case measure => first | (simp [intOf]; done) | (simp [intOf]; omega)
    | succ i =>
      have HS : Hid (dk.size = d.size) := hide hR.out.size
      go_wp2_with fail
      refine (so_siftI blk off cap _ _ _ dk _ hR.out.there hR.out.lowr ?_ ?_ ?_ ?_ _ HS.out).mono ?_
      · omega
      · omega
      · have := HS.out; omega
      · have := HS.out; omega
      rintro e w2 ⟨rfl, hR2⟩
      have HR2 := hide (hR.out.trans hR2)
      clear hR2
      go_wp2
      go_roundw
      case rel => exact ⟨i, _, by go_num, by omega, HR2, hide (by rw [← hE.out, heapBuild]; congr 2 <;> omega)⟩
      case measure => first | (simp [intOf]; done) | (simp [intOf]; omega)
end Go.Proofs.Ytjehoingphndnaa
