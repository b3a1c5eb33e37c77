/-
  The document's journals: Open.
-/
import Derived.Test.YtglgjakjhkdoaaaGreatDoorZDoADoPTaT
import Derived.Test.YtglgjakjhkdoaaaGreatDoorZTaF
namespace Go.Proofs.YtglgjakjhkdoaaaGreatDoor
open Go.RowKit Go.Maps
set_option linter.unusedVariables false
set_option linter.unusedSimpArgs false

theorem rtread_got {s : FsS} {k : Bs} {w w' : World} {e : Ending} (h : RfTold s k w e w') : ∃ a n c er, e = .returned (.tuple #[.slice a n c, .int .i64 er]) ∧ w'.ownsRow w.heap.size 5 1 (.slice a n c) n (bcells (tpGot s k)) ∧ n = (tpGot s k).length ∧ n ≤ c ∧ c ≤ 9223372036854775807 ∧ Below w.heap.size w w' ∧ er = (if s.has k then 0 else 80) := by
  unfold RfTold at h
  unfold tpGot
  split at h
  · rename_i hh
    obtain ⟨a, n, c, rfl, hf⟩ := h
    rw [if_pos hh, if_pos hh]
    exact ⟨a, n, c, 0, rfl, hf.1, hf.2.1, hf.cap.1, hf.cap.2, hf.2.2, rfl⟩
  · rename_i hh
    obtain ⟨rfl, hb⟩ := h
    rw [if_neg hh, if_neg hh]
    exact ⟨none, 0, 0, 80, rfl, World.ownsRow_nil _ _ _ _, rfl, Nat.le_refl _, by omega, hb, rfl⟩

def RtOpTold (rb : Nat) (s : FsS) (k : Bs) (G : List Nat) (w : World) (e : Ending) (w' : World) : Prop :=
  ∃ G', RfRep w' rb (tpOpen s k).2.1 G' ∧ Chg G G' w w' ∧
    (((tpOpen s k).1 ≠ 0 ∧ e = .returned (.tuple #[.pointer none, .slice none 0 0, .int .i64 (tpOpen s k).1])) ∨
     ((tpOpen s k).1 = 0 ∧ ∃ ub a cc xs, e = .returned (.tuple #[.pointer (some ⟨ub, 0, none⟩), .slice a xs.length cc, .int .i64 0]) ∧ RtBlk w' ub rb k ∧ w.heap.size ≤ ub ∧ ub ∉ G' ∧
       NotesAt w.heap.size w' (.slice a xs.length cc) xs ∧ xs.map Prod.snd = (tpOpen s k).2.2 ∧ NFar G' (.slice a xs.length cc) xs))

set_option maxRecDepth 100000 in
set_option maxHeartbeats 3200000 in
theorem rt_Open (rb : Nat) (s : FsS) (G : List Nat) (k : Bs) (hk : k.length ≤ maxLen) (w : World) (h : RfRep w rb s G) (ok : s.Ok) :
    Calls Tryz.prog 28 #[.pointer (some ⟨rb, 0, none⟩), .string ⟨k.toArray⟩] w (RtOpTold rb s k G w) := by
  have H := hide h
  have OK := hide ok
  obtain ⟨kn, hkn⟩ : ∃ kn, kn = k.length := ⟨_, rfl⟩
  have HKN := hide hkn
  clear h ok hkn
  by_cases hbad : kn = 0 ∨ 16 ≤ kn
  · have e : tpOpen s k = (1, s, []) := by unfold tpOpen; rw [if_pos (by rw [← HKN.out]; exact hbad)]
    have HE := hide e
    have hend : Hid (RtOpTold rb s k G w (.returned (.tuple #[.pointer none, .slice none 0 0, .int .i64 1])) w) := hide (by
      unfold RtOpTold
      rw [HE.out]
      exact ⟨G, H.out, Chg.refl _ _, .inl ⟨by show (1 : Int) ≠ 0; decide, rfl⟩⟩)
    clear e HE
    by_cases h0 : kn = 0
    · have hk0 : k = [] := List.eq_nil_of_length_eq_zero (by rw [← HKN.out]; exact h0)
      subst hk0
      clear hbad h0
      go_enter Tryz.func28, Tryz.ntmps28
      go_wp2
      go_ret3
      exact hend.out
    · have d0 : decide ((k.length : Int) < 1) = false := decide_eq_false (by have := HKN.out; omega)
      have d1 : decide ((15 : Int) < k.length) = true := decide_eq_true (by have := HKN.out; omega)
      clear hbad h0
      go_enter Tryz.func28, Tryz.ntmps28
      go_wp2
      go_ret3
      exact hend.out
  · have d0 : decide ((k.length : Int) < 1) = false := decide_eq_false (by have := HKN.out; omega)
    have d1 : decide ((15 : Int) < k.length) = false := decide_eq_false (by have := HKN.out; omega)
    have HTL := hide (show (tilde k).length ≤ maxLen by have := HKN.out; unfold tilde maxLen; simp; omega)
    have hk6 : k.length ≤ 1000000 := by have := HKN.out; omega
    have HT := hide (tilde_cat k)
    have HOPEN : Hid (tpOpen s k = if (tpMade (tpClear s k) k).1 ≠ 0 then ((tpMade (tpClear s k) k).1, (tpMade (tpClear s k) k).2, []) else (0, tpCut (tpMade (tpClear s k) k).2 k, (tpRead (tpGot (tpMade (tpClear s k) k).2 k)).1)) := hide (by
      unfold tpOpen
      rw [if_neg (by rw [← HKN.out]; exact hbad)])
    obtain ⟨s1, hs1⟩ : ∃ s1, s1 = tpClear s k := ⟨_, rfl⟩
    rw [← hs1] at HOPEN
    have HS1 := hide hs1
    have OK1 : Hid (s1.Ok) := hide (by rw [hs1]; exact tpClear_ok OK.out k)
    obtain ⟨bo, hbo⟩ : ∃ bo, bo = s.has (tilde k) := ⟨_, rfl⟩
    have HBO := hide hbo
    clear hbad hs1 hbo
    go_enter Tryz.func28, Tryz.ntmps28
    go_wp2_with fail
    rw [HT.out]
    refine (rt_there rb s G (tilde k) HTL.out w H.out OK.out).mono ?_
    rintro e w1 ⟨rfl, hb1⟩
    rw [← HBO.out]
    have HB1 := hide hb1
    clear hb1
    go_upto_if 26 with fail
    go_cut [] (fun wx => ∃ G1, Hid (RfRep wx rb s1 G1) ∧ Hid (Chg G G1 w wx))
    case first =>
      cases bo with
      | false =>
        have e : Hid (s1 = s) := hide (by rw [HS1.out]; unfold tpClear; rw [← HBO.out]; rfl)
        go_wp2
        go_meet
        exact ⟨G, hide (by rw [e.out]; exact H.out.low HB1.out), hide (Chg.of_below HB1.out)⟩
      | true =>
        have e : Hid (s1 = (fsRemove s (tilde k)).2) := hide (by rw [HS1.out]; unfold tpClear; rw [← HBO.out]; rfl)
        go_wp2_with fail
        rw [HT.out]
        refine (rf_Remove rb s G (tilde k) HTL.out w1 (H.out.low HB1.out) OK.out).mono ?_
        rintro e2 w2 ⟨rfl, ht⟩
        rw [← e.out] at ht
        obtain ⟨G1, h1, h2⟩ := ht
        have H1 := hide h1; have H2 := hide ((Chg.of_below HB1.out).trans h2)
        clear h1 h2
        go_wp2
        go_meet
        exact ⟨G1, H1, H2⟩
    case rest =>
    obtain ⟨G1, HR1, HC1⟩ := hcut
    go_wp2_with fail
    refine (rt_there rb s1 G1 k hk wc HR1.out OK1.out).mono ?_
    rintro e w3 ⟨rfl, hb3⟩
    obtain ⟨b2, hb2⟩ : ∃ b2, b2 = s1.has k := ⟨_, rfl⟩
    rw [← hb2]
    have HB2 := hide hb2
    have HR3 := hide (HR1.out.low hb3)
    have HC3 : Hid (Chg G G1 w w3) := hide (HC1.out.trans (Chg.of_below hb3))
    obtain ⟨S2, hS2⟩ : ∃ S2, S2 = (tpMade s1 k).2 := ⟨_, rfl⟩
    obtain ⟨er, her⟩ : ∃ er, er = (tpMade s1 k).1 := ⟨_, rfl⟩
    have HMADE : Hid (tpMade s1 k = (er, S2)) := hide (by rw [hS2, her])
    have OK2 : Hid (S2.Ok) := hide (by rw [hS2]; exact tpMade_ok OK1.out k)
    have HS2 := hide hS2; have HER := hide her
    clear hb2 hb3 hS2 her HR1 HC1
    obtain ⟨w0, hw0⟩ : ∃ w0, w0 = wc := ⟨_, rfl⟩
    clear hw0
    go_upto_if 35 with fail
    go_cut [] (fun wx => er = 0 ∧ ∃ G2, Hid (RfRep wx rb S2 G2) ∧ Hid (Chg G G2 w wx))
    case first =>
      cases b2 with
      | true =>
        have e : Hid (er = 0 ∧ S2 = s1) := hide (by have := HMADE.out; unfold tpMade at this; rw [← HB2.out, if_pos rfl] at this; cases this; exact ⟨rfl, rfl⟩)
        go_wp2
        go_meet
        exact ⟨e.out.1, G1, hide (by rw [e.out.2]; exact HR3.out), HC3⟩
      | false =>
        have e : Hid (fsCreate s1 k = (er, S2)) := hide (by have := HMADE.out; unfold tpMade at this; rw [← HB2.out, if_neg (by simp)] at this; exact this)
        go_wp2_with fail
        refine (rf_Create rb s1 G1 k hk w3 HR3.out OK1.out).mono ?_
        rintro e2 w4 ⟨rfl, ht⟩
        rw [e.out] at ht ⊢
        obtain ⟨G2, h1, h2⟩ := ht
        have H1 : Hid (RfRep w4 rb S2 G2) := hide h1
        have H2 := hide (HC3.out.trans h2)
        clear h1 h2
        by_cases he : er = 0
        · subst he
          go_wp2
          go_meet
          exact ⟨by first | rfl | trivial, G2, H1, H2⟩
        · have e2 : (er != 0) = true := by simpa using he
          have e3 : (er == 0) = false := by simpa using he
          have hend : Hid (RtOpTold rb s k G w (.returned (.tuple #[.pointer none, .slice none 0 0, .int .i64 er])) w4) := hide (by
            unfold RtOpTold
            rw [HOPEN.out, HMADE.out, if_pos he]
            exact ⟨G2, H1.out, H2.out, .inl ⟨he, rfl⟩⟩)
          clear he
          go_wp2
          go_ret3
          exact hend.out
    case rest =>
    obtain ⟨he, G2, HR4, HC4⟩ := hcut
    subst he
    clear HR3 HC3 HB2 HER w3 w0
    go_wp2_with fail
    refine (rf_Read rb S2 G2 k hk wc HR4.out OK2.out).mono ?_
    rintro e w5 hr
    obtain ⟨ra, rn, rc, er5, rfl, hown, hrn, hle, hc, hb5, -⟩ := rtread_got hr
    obtain ⟨N, hN⟩ : ∃ N, N = tpGot S2 k := ⟨_, rfl⟩
    rw [← hN] at hown hrn
    have hNl : rn ≤ 1048576 := by rw [hrn, hN]; exact got_le OK2.out k
    have HN := hide hN; have HOWN := hide hown; have HRN := hide hrn
    have HR5 := hide (HR4.out.low hb5)
    have HC5 : Hid (Chg G G2 w w5) := hide (HC4.out.trans (Chg.of_below hb5))
    have hsz5 := HC5.out.size
    clear hr hown hrn hb5 hN HR4 HC4
    go_wp2_with fail
    refine (ref10_Read N ra rn rc w5 HRN.out (by have := ownsRow_rd HOWN.out; unfold RdB; rw [← HRN.out]; exact this) hle hc hNl).mono ?_
    rintro e w6 ⟨na, nc, xs, rfl, hat, hxs, hb6⟩
    obtain ⟨nx, hnx⟩ : ∃ nx, nx = (tpRead N).2 := ⟨_, rfl⟩
    obtain ⟨m, hm⟩ : ∃ m, m = xs.length := ⟨_, rfl⟩
    rw [← hm] at hat ⊢
    rw [← hnx]
    have HNX := hide hnx; have HM := hide hm; have HXS := hide hxs; have HAT := hide hat
    have HR6 := hide (HR5.out.low hb6)
    have HC6 : Hid (Chg G G2 w w6) := hide (HC5.out.trans (Chg.of_below hb6))
    have hfar6 : Hid (NFar G2 (.slice na m nc) xs) := hide (hat.far fun j hj => HR5.out.lt j hj)
    have hfin : Hid (∀ w' G', RfRep w' rb (tpCut S2 k) G' → Chg G G' w w' → NotesAt w5.heap.size w' (.slice na m nc) xs → NFar G' (.slice na m nc) xs → RtOpTold rb s k G w (.returned (.tuple #[.pointer (some ⟨w'.heap.size, 0, none⟩), .slice na m nc, .int .i64 0])) (w'.alloc (.cells #[.pointer (some ⟨rb, 0, none⟩), .string ⟨k.toArray⟩] 99))) := hide fun w' G' z1 z2 z5 z6 => by
      have hb := below_alloc w' (.cells #[.pointer (some ⟨rb, 0, none⟩), .string ⟨k.toArray⟩] 99)
      unfold RtOpTold
      rw [HOPEN.out, HMADE.out, if_neg (by simp)]
      refine ⟨G', z1.low hb, z2.trans (Chg.of_below hb), .inr ⟨rfl, w'.heap.size, na, nc, xs, by rw [← HM.out], heap_alloc_at _ _, z2.size, fun hm => by have := z1.lt _ hm; omega, ?_, ?_, ?_⟩⟩
      · rw [← HM.out]; exact (z5.low hb).base hsz5
      · rw [HXS.out, HN.out]
      · rw [← HM.out]; exact z6
    clear hnx hm hxs hat hb6 HR5 HC5
    by_cases hcut : nx < rn
    · have d5 : decide ((nx : Int) < rn) = true := by simpa using hcut
      have d6 : decide (nx < rn) = true := by simpa using hcut
      have hce : Hid (tpCut S2 k = (fsCut S2 k (nx : Nat)).2) := hide (by unfold tpCut; rw [← HN.out, ← HNX.out, if_pos (by rw [← HRN.out]; exact hcut)])
      clear hcut
      go_wp2_with fail
      refine (rf_Cut rb S2 G2 k hk (nx : Nat) w6 HR6.out OK2.out).mono ?_
      rintro e w7 ⟨rfl, ht⟩
      rw [← hce.out] at ht
      obtain ⟨G3, hr3, hc3⟩ := ht
      have hn7 := HAT.out.chg hfar6.out hc3
      have HFIN := hide (hfin.out w7 G3 hr3 (HC6.out.trans hc3) hn7.1 hn7.2)
      clear hr3 hc3 hn7
      go_wp2
      go_ret3
      exact HFIN.out
    · have d5 : decide ((nx : Int) < rn) = false := decide_eq_false (by omega)
      have d6 : decide (nx < rn) = false := by simpa using hcut
      have hce : Hid (tpCut S2 k = S2) := hide (by unfold tpCut; rw [← HN.out, ← HNX.out, if_neg (by rw [← HRN.out]; exact hcut)])
      clear hcut
      have HFIN := hide (hfin.out w6 G2 (by rw [hce.out]; exact HR6.out) HC6.out HAT.out hfar6.out)
      go_wp2
      go_ret3
      exact HFIN.out
end Go.Proofs.YtglgjakjhkdoaaaGreatDoor
