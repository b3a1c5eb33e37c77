/-
  The library's sort at uint32: pdqsortOrdered sorts; Sort.
-/
import Derived.Test.YtjehoingphndnaaSoC
import Derived.Test.YtjehoingphndnaaSoE
import Derived.Test.YtjehoingphndnaaSoF
import Derived.Test.YtjehoingphndnaaSoG
import Derived.Sort.AssemblyPlain
namespace Go.Proofs.Ytjehoingphndnaa
open Go.RowKit Go.Sort
set_option linter.unusedVariables false
set_option linter.unusedSimpArgs false

/-- R is the row sorted between a and b -/
def Sorts (a b : Nat) (d R : Array Int) : Prop := PermIn a b d R ∧ SortedIn ltInt a b R
def Sortable (a b : Nat) (d : Array Int) : Prop := Go.Sort.Below ltInt a b d
theorem Sorts.of_perm {a b : Nat} {d d1 R : Array Int} (h : PermIn a b d d1) (k : Sorts a b d1 R) : Sorts a b d R := ⟨permIn_trans _ _ _ _ _ h k.1, k.2⟩

set_option maxRecDepth 100000 in
set_option maxHeartbeats 12800000 in
theorem so_pdq : ∀ (N blk off cap a b : Nat) (lim : Int) (d : Array Int) (w : World), b - a < N → Holds encU w blk off d → blk < w.heap.size → a ≤ b → b ≤ d.size → d.size ≤ 255 → Sortable a b d →
    Calls Try.prog 23 #[.slice (some ⟨blk, off, none⟩) d.size cap, .int .i64 a, .int .i64 b, .int .i64 lim] w fun e w' => e = .returned (.tuple #[]) ∧ ∃ R, RowAt w blk off d R w' ∧ Sorts a b d R := by
  intro N
  induction N with
  | zero => intro blk off cap a b lim d w h; omega
  | succ N ih =>
  intro blk off cap a b lim d w hN hH hl hab hb hsz hB
  have IH := hide ih
  have H0 := hide (RowAt.refl hH hl)
  have HB := hide hB
  clear hH ih hB
  go_enter Try.func23, Try.ntmps23
  go_wp2
  go_loopw [1, 2, 3, 8, 9] (fun va vb vl v8 v9 wr => ∃ (a' b' : Nat) (L : Int) (wb wp : Bool) (dk : Array Int), va = .int .i64 a' ∧ vb = .int .i64 b' ∧ vl = .int .i64 L ∧ v8 = .bool wb ∧ v9 = .bool wp ∧ a' ≤ b' ∧ b' ≤ d.size ∧ b' - a' ≤ b - a ∧
      Hid (RowAt w blk off d dk wr) ∧ Hid (Sortable a' b' dk) ∧ Hid (∀ R, Sorts a' b' dk R → Sorts a b d R)) (fun va vb _ _ _ _ => (intOf vb).toNat - (intOf va).toNat)
  case atStart => exact ⟨a, b, lim, true, true, d, rfl, rfl, rfl, rfl, rfl, hab, hb, Nat.le_refl _, H0, HB, hide fun R h => h⟩
  case round =>
    obtain ⟨a', b', L, wb, wp, dk, rfl, rfl, rfl, rfl, rfl, hab', hb', hle, hR, hBk, hK⟩ := hrel
    have HS := hide hR.out.size
    by_cases h12 : b' - a' ≤ 12
    · have h12z : (b' : Int) - a' ≤ 12 := by omega
      have hi := hide (so_insertion blk off cap a' b' dk _ hR.out.there hR.out.lowr hab' (by rw [HS.out]; exact hb') (by rw [HS.out]; omega))
      rw [hR.out.size] at hi
      go_wp2_with (go_at_call 25; refine hi.out.mono ?_; rintro e w2 ⟨rfl, hR2⟩; have HR2 := hide (hR.out.trans hR2); clear hR2)
      (try simp only [Exit.inBlock, Exit.then])
      refine bodyPost_ret (results_none rfl _ _ _) rfl ?_
      exact ⟨rfl, _, HR2.out, hK.out _ (insertionSort_holds swo_ltInt dk a' b' hab' (by rw [HS.out]; exact hb'))⟩
    have h12z : ¬ ((b' : Int) - a' ≤ 12) := by omega
    by_cases hL0 : L = 0
    · have hi := hide (so_heap blk off cap a' b' dk _ hR.out.there hR.out.lowr hab' (by rw [HS.out]; exact hb') (by rw [HS.out]; omega))
      rw [hR.out.size] at hi
      subst hL0
      go_wp2_with (go_at_call 26; refine hi.out.mono ?_; rintro e w2 ⟨rfl, hR2⟩; have HR2 := hide (hR.out.trans hR2); clear hR2)
      (try simp only [Exit.inBlock, Exit.then])
      refine bodyPost_ret (results_none rfl _ _ _) rfl ?_
      exact ⟨rfl, _, HR2.out, hK.out _ (heapSort_holds swo_ltInt dk a' b' hab' (by rw [HS.out]; exact hb'))⟩
    have hLb : (L == 0) = false := by simpa using hL0
    go_upto_if 35 with fail
    go_cut [3] (fun v wx => ∃ (L' : Int) (d1 : Array Int), v = .int .i64 L' ∧ Hid (RowAt w blk off d d1 wx) ∧ Hid (PermIn a' b' dk d1))
    case first =>
      cases wb with
      | true =>
        go_wp2
        go_meet
        exact ⟨L, dk, rfl, hR, hide (permIn_refl _ _ _)⟩
      | false =>
        have hi := hide (so_break blk off cap a' b' dk _ hR.out.there hR.out.lowr (by omega) (by rw [HS.out]; exact hb') (by rw [HS.out]; omega))
        rw [hR.out.size] at hi
        go_wp2_with (go_at_call 27; refine hi.out.mono ?_; rintro e w2 ⟨rfl, d1, hR2, hp2⟩; have HR2 := hide (hR.out.trans hR2); have HP2 := hide hp2; clear hR2 hp2)
        go_meet
        exact ⟨_, d1, rfl, HR2, HP2⟩
    case rest =>
    clear hLb hL0 hR
    obtain ⟨L', d1, rfl, hR, hP1⟩ := hcut
    have HS1 := hide hR.out.size
    have hi := hide (so_pivot blk off cap a' b' d1 _ hR.out.there hR.out.lowr (by omega) (by rw [HS1.out]; exact hb') (by rw [HS1.out]; omega))
    rw [hR.out.size] at hi
    go_upto_if 50 with (go_at_call 28; refine hi.out.mono ?_; rintro e w2 ⟨⟨p, h, rfl, hh2, hp1, hp2⟩, hR2⟩; have HR2 := hide (hR.out.trans hR2); clear hR2)
    clear hi
    go_cut [11, 12] (fun v1 v2 wx => ∃ (p' h' : Nat) (d2 : Array Int), v1 = .int .i64 p' ∧ v2 = .int .i64 h' ∧ a' ≤ p' ∧ p' < b' ∧ Hid (RowAt w blk off d d2 wx) ∧ Hid (PermIn a' b' dk d2))
    case first =>
      by_cases hh : h = 2
      · subst hh
        have hi := hide (so_reverse blk off cap a' b' d1 _ HR2.out.there HR2.out.lowr (by omega) (by rw [HS1.out]; exact hb') (by rw [HS1.out]; omega))
        rw [HR2.out.size] at hi
        go_wp2_with (go_at_call 29; refine hi.out.mono ?_; rintro e w3 ⟨rfl, d2, hR3, hp3⟩; have HR3 := hide (HR2.out.trans hR3); have HP3 := hide hp3; clear hR3 hp3)
        go_meet
        refine ⟨b' - 1 - (p - a'), 1, d2, ?_, rfl, by omega, by omega, HR3, hide (permIn_trans _ _ _ _ _ hP1.out HP3.out)⟩
        congr 1
        omega
      · have hhb : ((h : Int) == 2) = false := by simpa using (by omega : ¬ (h : Int) = 2)
        go_wp2
        go_meet
        exact ⟨p, h, d1, rfl, rfl, hp1, hp2, HR2, hP1⟩
    case rest =>
    clear HR2 hR hP1 HS1 hp1 hp2 hh2
    obtain ⟨p', h', d2, rfl, rfl, hp1, hp2, hR, hP2⟩ := hcut
    go_upto_region 15 with fail
    go_cut [68] (fun v wx => ∃ tb : Bool, v = .bool tb ∧ Hid (RowAt w blk off d d2 wx))
    case first =>
      cases wb <;> cases wp <;> (go_wp2_with fail) <;> go_meet <;> exact ⟨_, rfl, hR⟩
    case rest =>
    clear hR
    obtain ⟨tb, rfl, hR⟩ := hcut
    have HS2 := hide hR.out.size
    have hB2 : Hid (Sortable a' b' d2) := hide (Below.perm hBk.out (by rw [HS.out]; exact hb') hP2.out)
    go_upto_if 68 with fail
    go_cut [] (fun wx => ∃ d3 : Array Int, Hid (RowAt w blk off d d3 wx) ∧ Hid (PermIn a' b' dk d3))
    case first =>
      cases tb with
      | false =>
        go_wp2
        go_meet
        exact ⟨d2, hR, hP2⟩
      | true =>
        have hi := hide (so_partial blk off cap a' b' d2 _ hR.out.there hR.out.lowr (by omega) (by rw [HS2.out]; exact hb') (by rw [HS2.out]; omega))
        rw [hR.out.size] at hi
        have hpp := hide (partialInsertionSort_holds swo_ltInt d2 a' b' (by omega) (by rw [HS2.out]; exact hb') hB2.out)
        obtain ⟨pr, hpr⟩ : ∃ pr, pr = Sort.partialInsertionSort ltInt d2 a' b' := ⟨_, rfl⟩
        rw [← hpr] at hi hpp
        obtain ⟨pa, pb⟩ := pr
        clear hpr
        go_wp2_with (go_at_call 30; refine hi.out.mono ?_; rintro e w3 ⟨rfl, hR3⟩; have HR3 := hide (hR.out.trans hR3); clear hR3)
        · (try simp only [Exit.inBlock, Exit.then])
          refine bodyPost_ret (results_none rfl _ _ _) rfl ?_
          refine ⟨rfl, pa, HR3.out, hK.out _ (Sorts.of_perm hP2.out ⟨hpp.out.1, hpp.out.2 ?_⟩)⟩
          first | assumption | rfl
        · go_meet
          exact ⟨pa, HR3, hide (permIn_trans _ _ _ _ _ hP2.out hpp.out.1)⟩
    case rest =>
    clear hR HS2 hB2 hP2
    obtain ⟨d3, hR, hP3⟩ := hcut
    have HS3 := hide hR.out.size
    have hB3 : Hid (Sortable a' b' d3) := hide (Below.perm hBk.out (by rw [HS.out]; exact hb') hP3.out)
    obtain ⟨G, HG, hcw, hfw⟩ := hR.out.fam
    go_upto_region 17 with fail
    go_cut [87] (fun v wx => ∃ tb : Bool, v = .bool tb ∧ Hid (tb = true → 0 < a' ∧ ltInt d3[a' - 1]! d3[p']! = false) ∧ Hid (RowAt w blk off d d3 wx))
    case first =>
      by_cases ha : 0 < a'
      · have haz : decide (0 < (a' : Int)) = true := by simpa using ha
        go_wp2_with fail
        go_big_quiet (first | (go_at_call 31; refine Calls.quiet_of_same (so_Less _ _ _)))
        go_wp2_with fail
        go_meet
        refine ⟨_, rfl, hide fun h => ⟨ha, ?_⟩, hide (hR.out.drewN nq)⟩
        rw [← HG.out, ← HG.out]
        simpa using h
      · have haz : decide (0 < (a' : Int)) = false := by simp; omega
        go_wp2_with fail
        go_big_quiet (first | (go_at_call 31; refine Calls.quiet_of_same (so_Less _ _ _)))
        go_wp2_with fail
        go_meet
        exact ⟨false, rfl, hide fun h => (by cases h), hide (hR.out.drewN nq)⟩
    case rest =>
    clear hR HG hcw hfw
    obtain ⟨tb, rfl, hT, hR⟩ := hcut
    cases tb with
    | true =>
      have hi := hide (so_partEq blk off cap a' b' p' d3 _ hR.out.there hR.out.lowr hp1 hp2 (by rw [HS3.out]; exact hb') (by rw [HS3.out]; omega))
      rw [hR.out.size] at hi
      obtain ⟨mid, d4, hx⟩ : ∃ mid d4, Sort.partitionEqual ltInt d3 a' b' p' = (mid, d4) := ⟨_, _, rfl⟩
      rw [hx] at hi
      obtain ⟨r1, r2, r3, r4, r5⟩ := round_eq swo_ltInt (partitionEqual_holds ltInt) (hT.out rfl).1 hp1 hp2 (by rw [HS3.out]; exact hb') hB3.out (hT.out rfl).2 hx
      have R4 := hide r4; have R5 := hide r5
      clear hx r4 r5
      go_wp2_with (go_at_call 32; refine hi.out.mono ?_; rintro e w3 ⟨rfl, hR3⟩; have HR3 := hide (hR.out.trans hR3); clear hR3)
      go_roundw
      case rel => exact ⟨mid, b', L', wb, wp, d4, rfl, rfl, rfl, rfl, rfl, by omega, hb', by omega, HR3, R4, hide fun R h => hK.out R (Sorts.of_perm hP3.out (R5.out R h.1 h.2))⟩
      case measure => simp [intOf]; omega
    | false =>
      have hi := hide (so_part blk off cap a' b' p' d3 _ hR.out.there hR.out.lowr hp1 hp2 (by rw [HS3.out]; exact hb') (by rw [HS3.out]; omega))
      rw [hR.out.size] at hi
      obtain ⟨mid, ap, d4, hx⟩ : ∃ mid ap d4, Sort.partition ltInt d3 a' b' p' = (mid, ap, d4) := ⟨_, _, _, rfl⟩
      rw [hx] at hi
      obtain ⟨r1, r2, r3, r4, r5, r6, r7⟩ := round_part swo_ltInt (partition_holds ltInt) hp1 hp2 (by rw [HS3.out]; exact hb') hB3.out hx
      have R4 := hide r4; have R5 := hide r5; have R6 := hide r6; have R7 := hide r7
      clear hx r4 r5 r6 r7
      go_wp2_with (go_at_call 33; refine hi.out.mono ?_; rintro e w3 ⟨rfl, hR3⟩; have HR3 := hide (hR.out.trans hR3); clear hR3)
      · have hj := IH.out blk off cap a' mid L' d4 w3 (by omega) HR3.out.there HR3.out.lowr r1 (by rw [r3, HS3.out]; omega) (by rw [r3, HS3.out]; exact hsz) R4.out
        rw [HR3.out.size] at hj
        refine hj.mono ?_
        rintro e w4 ⟨rfl, R, hR4, hRs⟩
        have HR4 := hide (HR3.out.trans hR4)
        obtain ⟨q1, q2⟩ := R6.out R hRs.1 hRs.2
        have Q1 := hide q1; have Q2 := hide q2
        clear hj hR4 hRs q1 q2 hi
        go_wp2
        go_roundw
        case rel => exact ⟨mid + 1, b', L', _, ap, R, by go_num, rfl, rfl, rfl, rfl, by omega, hb', by omega, HR4, Q1, hide fun X h => hK.out X (Sorts.of_perm hP3.out (Q2.out X h.1 h.2))⟩
        case measure => simp [intOf]; omega
      · have hj := IH.out blk off cap (mid + 1) b' L' d4 w3 (by omega) HR3.out.there HR3.out.lowr (by omega) (by rw [r3, HS3.out]; omega) (by rw [r3, HS3.out]; exact hsz) R5.out
        rw [HR3.out.size, show ((mid + 1 : Nat) : Int) = (mid : Int) + 1 by omega] at hj
        refine hj.mono ?_
        rintro e w4 ⟨rfl, R, hR4, hRs⟩
        have HR4 := hide (HR3.out.trans hR4)
        obtain ⟨q1, q2⟩ := R7.out R hRs.1 hRs.2
        have Q1 := hide q1; have Q2 := hide q2
        clear hj hR4 hRs q1 q2 hi
        go_wp2
        go_roundw
        case rel => exact ⟨a', mid, L', _, ap, R, rfl, rfl, rfl, rfl, rfl, by omega, by omega, by omega, HR4, Q1, hide fun X h => hK.out X (Sorts.of_perm hP3.out (Q2.out X h.1 h.2))⟩
        case measure => simp [intOf]; omega

/-- the sorted list of a list -/
def sortL (l : List Int) : List Int := l.mergeSort fun x y => decide (x ≤ y)
theorem sorts_eq {zs : List Int} {R : Array Int} (h : Sorts 0 zs.length zs.toArray R) : R = (sortL zs).toArray := by
  have h1 := sorted_unique_holds (lt := ltInt) swo_ltInt (fun x y h1 h2 => by simp only [ltInt, decide_eq_false_iff_not] at h1 h2; omega) zs.toArray R (by simpa using h.1) (by simpa using h.2)
  have h2 : R.toList = sortL zs := by
    rw [h1]
    unfold sortL
    congr 1
    funext x y
    show (!decide (y < x)) = decide (x ≤ y)
    by_cases h : x ≤ y <;> first | (simp [h]; done) | (simp [h]; omega)
  rw [← h2]

set_option maxRecDepth 100000 in
set_option maxHeartbeats 1600000 in
theorem so_Sort (blk off cap : Nat) (zs : List Int) (w : World) (hH : Holds encU w blk off zs.toArray) (hl : blk < w.heap.size) (hsz : zs.length ≤ 255) :
    Calls Try.prog 17 #[.slice (some ⟨blk, off, none⟩) zs.length cap] w fun e w' => e = .returned (.tuple #[]) ∧ RowAt w blk off zs.toArray (sortL zs).toArray w' := by
  have hp := hide (so_pdq (zs.length + 1) blk off cap 0 zs.length (Lib.bitLen ((zs.length : Int)).toNat) zs.toArray w (by omega) hH hl (Nat.zero_le _) (by simp) (by simpa using hsz) (.inl rfl))
  rw [show zs.toArray.size = zs.length by simp] at hp
  have hL := hide (so_Len zs.length (by omega) (by omega))
  clear hH
  go_enter Try.func17, Try.ntmps17
  go_wp2_with (first
    | (go_at_call 24; refine (hL.out _).mono ?_; rintro e w' ⟨rfl, rfl⟩)
    | (go_at_call 23; refine hp.out.mono ?_; rintro e w' ⟨rfl, R, hR, hS⟩; have HR := hide hR; have HS := hide hS; clear hR hS))
  go_end0
  refine ⟨rfl, ?_⟩
  rw [← sorts_eq HS.out]
  exact HR.out
end Go.Proofs.Ytjehoingphndnaa
