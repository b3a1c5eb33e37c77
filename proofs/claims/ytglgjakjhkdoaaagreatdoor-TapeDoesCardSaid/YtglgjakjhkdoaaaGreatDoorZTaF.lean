/-
  The walk of tape.Open.
-/
import Derived.Test.YtglgjakjhkdoaaaGreatDoorZTaE
namespace Go.Proofs.YtglgjakjhkdoaaaGreatDoor
open Go.RowKit Go.Maps
set_option linter.unusedVariables false
set_option linter.unusedSimpArgs false

theorem read_got {s : FsS} {k : Bs} {w w' : World} {e : Ending} (h : ReadTold s k w e w') : ∃ a n c er, e = .returned (.tuple #[.slice a n c, .int .u16 er]) ∧ w'.ownsRow w.heap.size 5 1 (.slice a n c) n (bcells (tpGot s k)) ∧ n = (tpGot s k).length ∧ n ≤ c ∧ c ≤ 9223372036854775807 ∧ Below w.heap.size w w' ∧ er = (if s.has k then 0 else 80) := by
  unfold ReadTold at h
  unfold tpGot
  split at h
  · rename_i hh
    obtain ⟨a, n, c, rfl, hf⟩ := h
    rw [if_pos hh, if_pos hh]
    exact ⟨a, n, c, 0, rfl, hf.1, hf.2.1, hf.cap.1, hf.cap.2, hf.2.2, rfl⟩
  · rename_i hh
    obtain ⟨rfl, rfl⟩ := h
    rw [if_neg hh, if_neg hh]
    exact ⟨none, 0, 0, 80, rfl, World.ownsRow_nil _ _ _ _, rfl, Nat.le_refl _, by omega, Below.refl _ _, rfl⟩
theorem got_le {s : FsS} (ok : s.Ok) (k : Bs) : (tpGot s k).length ≤ 1048576 := by
  unfold tpGot
  split
  · have h1 := get_total s k
    have h2 := ok.used_le
    omega
  · simp
def NFar (F : List Nat) (v : Value) (xs : List (Value × List UInt8)) : Prop := ∀ b, (v.ownBlock = some b ∨ ∃ x ∈ xs, x.1.ownBlock = some b) → b ∉ F
theorem NotesAt.chg {B : Nat} {w w' : World} {v : Value} {xs : List (Value × List UInt8)} {F F' : List Nat} (h : NotesAt B w v xs) (hf : NFar F v xs) (hc : Chg F F' w w') : NotesAt B w' v xs ∧ NFar F' v xs := by
  have hlt : ∀ b, (v.ownBlock = some b ∨ ∃ x ∈ xs, x.1.ownBlock = some b) → b < w.heap.size := fun b hb => by
    rcases hb with hb | ⟨x, hx, hb⟩
    · exact (h.row.lt b hb).2
    · exact ((h.ent x hx).lt b hb).2
  refine ⟨⟨ownsRow_same h.row fun b hb => hc.block b (hlt b (.inl hb)) (hf b (.inl hb)), fun x hx => ownsRow_same (h.ent x hx) fun b hb => hc.block b (hlt b (.inr ⟨x, hx, hb⟩)) (hf b (.inr ⟨x, hx, hb⟩))⟩, fun b hb hm => ?_⟩
  rcases hc.fresh b hm with h1 | h1
  · exact hf b hb h1
  · have := hlt b hb
    omega
theorem NotesAt.base {B B' : Nat} {w : World} {v : Value} {xs : List (Value × List UInt8)} (h : NotesAt B w v xs) (hb : B' ≤ B) : NotesAt B' w v xs := ⟨ownsRow_base h.row hb, fun x hx => ownsRow_base (h.ent x hx) hb⟩
theorem NotesAt.far {B : Nat} {w : World} {v : Value} {xs : List (Value × List UInt8)} {F : List Nat} (h : NotesAt B w v xs) (hF : ∀ k ∈ F, k < B) : NFar F v xs := fun b hb hm => by
  have := hF b hm
  rcases hb with hb | ⟨x, hx, hb⟩
  · have := (h.row.lt b hb).1; omega
  · have := ((h.ent x hx).lt b hb).1; omega

def TpOpTold (sb : Nat) (s : FsS) (k : Bs) (F : List Nat) (w : World) (e : Ending) (w' : World) : Prop :=
  ∃ F', FsRep w' sb (tpOpen s k).2.1 F' ∧ Chg F F' w w' ∧
    (((tpOpen s k).1 ≠ 0 ∧ e = .returned (.tuple #[.pointer none, .slice none 0 0, .int .u16 (tpOpen s k).1])) ∨
     ((tpOpen s k).1 = 0 ∧ ∃ tb a cc xs, e = .returned (.tuple #[.pointer (some ⟨tb, 0, none⟩), .slice a xs.length cc, .int .u16 0]) ∧ TpBlk w' tb sb k ∧ w.heap.size ≤ tb ∧ tb ∉ F' ∧
       NotesAt w.heap.size w' (.slice a xs.length cc) xs ∧ xs.map Prod.snd = (tpOpen s k).2.2 ∧ NFar F' (.slice a xs.length cc) xs))

set_option maxRecDepth 100000 in
set_option maxHeartbeats 3200000 in
theorem tp_Open (sb : Nat) (s : FsS) (F : List Nat) (k : Bs) (hk : k.length ≤ maxLen) (w : World) (h : FsRep w sb s F) (ok : s.Ok) :
    Calls Tryz.prog 15 #[.pointer (some ⟨sb, 0, none⟩), .string ⟨k.toArray⟩] w (TpOpTold sb s k F w) := by
  have H := hide h
  have OK := hide ok
  obtain ⟨kn, hkn⟩ : ∃ kn, kn = k.length := ⟨_, rfl⟩
  have HKN := hide hkn
  clear h ok hkn
  by_cases hbad : kn = 0 ∨ 16 ≤ kn
  · have e : tpOpen s k = (1, s, []) := by unfold tpOpen; rw [if_pos (by rw [← HKN.out]; exact hbad)]
    have HE := hide e
    have hend : Hid (TpOpTold sb s k F w (.returned (.tuple #[.pointer none, .slice none 0 0, .int .u16 1])) w) := hide (by
      unfold TpOpTold
      rw [HE.out]
      exact ⟨F, H.out, Chg.refl _ _, .inl ⟨by show (1 : Int) ≠ 0; decide, rfl⟩⟩)
    clear e HE
    by_cases h0 : kn = 0
    · have hk0 : k = [] := List.eq_nil_of_length_eq_zero (by rw [← HKN.out]; exact h0)
      subst hk0
      clear hbad h0
      go_enter Tryz.func15, Tryz.ntmps15
      go_wp2
      go_ret3
      exact hend.out
    · have hk0 : k ≠ [] := fun e => h0 (by rw [HKN.out, e]; rfl)
      have e1 : (k == []) = false := by simpa using hk0
      have d1 : decide ((16 : Int) ≤ k.length) = true := decide_eq_true (by have := HKN.out; omega)
      clear hbad h0
      go_enter Tryz.func15, Tryz.ntmps15
      go_wp2
      go_ret3
      exact hend.out
  · have hk0 : k ≠ [] := fun e => hbad (.inl (by rw [HKN.out, e]; rfl))
    have e1 : (k == []) = false := by simpa using hk0
    have d1 : decide ((16 : Int) ≤ k.length) = false := decide_eq_false (by have := HKN.out; omega)
    have hk6 : k.length ≤ 1000000 := by have := HKN.out; omega
    have HOPEN : Hid (tpOpen s k = if (tpMade (tpClear s k) k).1 ≠ 0 then ((tpMade (tpClear s k) k).1, (tpMade (tpClear s k) k).2, []) else (0, tpCut (tpMade (tpClear s k) k).2 k, (tpRead (tpGot (tpMade (tpClear s k) k).2 k)).1)) := hide (by
      unfold tpOpen
      rw [if_neg (by rw [← HKN.out]; exact hbad)])
    obtain ⟨s1, hs1⟩ : ∃ s1, s1 = tpClear s k := ⟨_, rfl⟩
    rw [← hs1] at HOPEN
    have HS1 := hide hs1
    have OK1 : Hid (s1.Ok) := hide (by rw [hs1]; exact tpClear_ok OK.out k)
    obtain ⟨W1, hW1⟩ : ∃ W1, W1 = w.alloc (.cells #[.pointer (some ⟨sb, 0, none⟩), .string ⟨k.toArray⟩] 87) := ⟨_, rfl⟩
    have hb1 : Below w.heap.size w W1 := by rw [hW1]; exact below_alloc _ _
    have hblk : TpBlk W1 w.heap.size sb k := by rw [hW1]; exact heap_alloc_at _ _
    have HB1 := hide hb1; have HBLK := hide hblk
    have hsz1 := hblk.lt
    have hTF : Hid (w.heap.size ∉ F) := hide fun hm => by have := H.out.lt _ hm; omega
    clear hbad hs1 hb1 hblk
    go_enter Tryz.func15, Tryz.ntmps15
    go_upto_region 4 with fail
    rw [← hW1]
    clear hW1
    go_wp2_with fail
    refine (tp_clear w.heap.size sb s F k hk6 W1 HBLK.out (H.out.low HB1.out) OK.out).mono ?_
    rintro e w2 ⟨rfl, ht⟩
    rw [← HS1.out] at ht
    obtain ⟨F1, hr1, hc1⟩ := ht
    have HR1 := hide hr1
    have HC1 : Hid (Chg F F1 w w2) := hide ((Chg.of_below HB1.out).trans hc1)
    have HBLK2 := hide (HBLK.out.chg hc1 hTF.out)
    have hTF1 : Hid (w.heap.size ∉ F1) := hide fun hm => by
      rcases hc1.fresh _ hm with h1 | h1
      · exact hTF.out h1
      · omega
    clear hr1 hc1
    go_wp2_with fail
    refine (tp_has sb s1 F1 k hk w2 HR1.out OK1.out).mono ?_
    rintro e w3 ⟨rfl, hb3⟩
    have HR3 := hide (HR1.out.low hb3)
    have HC3 : Hid (Chg F F1 w w3) := hide (HC1.out.trans (Chg.of_below hb3))
    have HBLK3 := hide (HBLK2.out.low hb3)
    clear hb3 HR1 HC1 HBLK2
    obtain ⟨bo, hbo⟩ : ∃ bo, bo = s1.has k := ⟨_, rfl⟩
    rw [← hbo]
    have HBO := hide hbo
    clear hbo
    cases bo with
    | true =>
      obtain ⟨S2, hS2⟩ : ∃ S2, S2 = s1 := ⟨_, rfl⟩
      have HMADE : Hid (tpMade s1 k = (0, S2)) := hide (by unfold tpMade; rw [← HBO.out, if_pos rfl, hS2])
      have OK2 : Hid (S2.Ok) := hide (by rw [hS2]; exact OK1.out)
      have HR4 : Hid (FsRep w3 sb S2 F1) := hide (by rw [hS2]; exact HR3.out)
      have HC4 := HC3; have HBLK4 := HBLK3; have hTF2 := hTF1
      clear hS2 HR3 HC3 HBLK3 hTF1
      go_wp2_with fail
      refine (fs_Read sb S2 F1 k hk w3 HR4.out OK2.out).mono ?_
      rintro e w5 hr
      obtain ⟨ra, rn, rc, er5, rfl, hown, hrn, hle, hc, hb5, -⟩ := read_got hr
      obtain ⟨G, hG⟩ : ∃ G, G = tpGot S2 k := ⟨_, rfl⟩
      rw [← hG] at hown hrn
      have hGl : rn ≤ 1048576 := by rw [hrn, hG]; exact got_le OK2.out k
      have HG := hide hG; have HOWN := hide hown; have HRN := hide hrn
      have HR5 := hide (HR4.out.low hb5)
      have HC5 : Hid (Chg F F1 w w5) := hide (HC4.out.trans (Chg.of_below hb5))
      have HBLK5 := hide (HBLK4.out.low hb5)
      have hsz5 := HC5.out.size
      clear hr hown hrn hb5 hG HR4 HC4 HBLK4
      go_wp2_with fail
      refine (tp_Read G ra rn rc w5 HRN.out (by have := ownsRow_rd HOWN.out; unfold RdB; rw [← HRN.out]; exact this) hle hc hGl (fun j hj => (HOWN.out.lt j hj).2)).mono ?_
      rintro e w6 ⟨na, nc, xs, rfl, hat, hxs, hb6⟩
      obtain ⟨nx, hnx⟩ : ∃ nx, nx = (tpRead G).2 := ⟨_, rfl⟩
      obtain ⟨m, hm⟩ : ∃ m, m = xs.length := ⟨_, rfl⟩
      rw [← hm] at hat ⊢
      rw [← hnx]
      have HNX := hide hnx; have HM := hide hm; have HXS := hide hxs; have HAT := hide hat
      have HR6 := hide (HR5.out.low hb6)
      have HC6 : Hid (Chg F F1 w w6) := hide (HC5.out.trans (Chg.of_below hb6))
      have HBLK6 := hide (HBLK5.out.low hb6)
      have hfar6 : Hid (NFar F1 (.slice na m nc) xs) := hide (hat.far fun j hj => HR5.out.lt j hj)
      have hfin : Hid (∀ w' F', FsRep w' sb (tpCut S2 k) F' → Chg F F' w w' → TpBlk w' w.heap.size sb k → w.heap.size ∉ F' → NotesAt w5.heap.size w' (.slice na m nc) xs → NFar F' (.slice na m nc) xs → TpOpTold sb s k F w (.returned (.tuple #[.pointer (some ⟨w.heap.size, 0, none⟩), .slice na m nc, .int .u16 0])) w') := hide fun w' F' z1 z2 z3 z4 z5 z6 => by
        unfold TpOpTold
        rw [HOPEN.out, HMADE.out, if_neg (by simp)]
        refine ⟨F', z1, z2, .inr ⟨rfl, w.heap.size, na, nc, xs, by rw [← HM.out], z3, Nat.le_refl _, z4, ?_, ?_, ?_⟩⟩
        · rw [← HM.out]; exact z5.base hsz5
        · rw [HXS.out, HG.out]
        · rw [← HM.out]; exact z6
      clear hnx hm hxs hat hb6 HR5 HC5 HBLK5
      by_cases hcut : nx < rn
      · have d5 : decide ((nx : Int) < rn) = true := by simpa using hcut
        have d6 : decide (nx < rn) = true := by simpa using hcut
        have hce : Hid (tpCut S2 k = (fsCut S2 k (nx : Nat)).2) := hide (by unfold tpCut; rw [← HG.out, ← HNX.out, if_pos (by rw [← HRN.out]; exact hcut)])
        clear hcut
        go_wp2_with fail
        refine (fs_Cut sb S2 F1 k hk (nx : Nat) w6 HR6.out OK2.out).mono ?_
        rintro e w7 ⟨rfl, ht⟩
        rw [← hce.out] at ht
        obtain ⟨F3, hr3, hc3⟩ := ht
        have hn7 := HAT.out.chg hfar6.out hc3
        have HFIN := hide (hfin.out w7 F3 hr3 (HC6.out.trans hc3) (HBLK6.out.chg hc3 hTF2.out) (fun hm => by
          rcases hc3.fresh _ hm with h1 | h1
          · exact hTF2.out h1
          · have := HBLK6.out.lt
            omega) hn7.1 hn7.2)
        clear hr3 hc3 hn7
        go_wp2
        go_ret3
        exact HFIN.out
      · have d5 : decide ((nx : Int) < rn) = false := decide_eq_false (by omega)
        have d6 : decide (nx < rn) = false := by simpa using hcut
        have hce : Hid (tpCut S2 k = S2) := hide (by unfold tpCut; rw [← HG.out, ← HNX.out, if_neg (by rw [← HRN.out]; exact hcut)])
        clear hcut
        have HFIN := hide (hfin.out w6 F1 (by rw [hce.out]; exact HR6.out) HC6.out HBLK6.out hTF2.out HAT.out hfar6.out)
        go_wp2
        go_ret3
        exact HFIN.out
    | false =>
      obtain ⟨S2, hS2⟩ : ∃ S2, S2 = (fsCreate s1 k).2 := ⟨_, rfl⟩
      obtain ⟨er, her⟩ : ∃ er, er = (fsCreate s1 k).1 := ⟨_, rfl⟩
      have HMADE0 : Hid (tpMade s1 k = (er, S2)) := hide (by unfold tpMade; rw [← HBO.out, if_neg (by simp), hS2, her])
      have OK2 : Hid (S2.Ok) := hide (by rw [hS2]; exact fsCreate_ok OK1.out k)
      have HS2 := hide hS2; have HER := hide her
      clear hS2 her
      go_wp2_with fail
      refine (fs_Create sb s1 F1 k hk w3 HR3.out OK1.out).mono ?_
      rintro e w4 ⟨rfl, ht⟩
      rw [← HS2.out] at ht
      rw [← HER.out]
      obtain ⟨F2, hr4, hc4⟩ := ht
      have HR4 := hide hr4
      have HC4 : Hid (Chg F F2 w w4) := hide (HC3.out.trans hc4)
      have HBLK4 := hide (HBLK3.out.chg hc4 hTF1.out)
      have hTF2 : Hid (w.heap.size ∉ F2) := hide fun hm => by
        rcases hc4.fresh _ hm with h1 | h1
        · exact hTF1.out h1
        · have := HC3.out.size
          have := HBLK3.out.lt
          omega
      clear hr4 hc4
      by_cases he : er = 0
      · subst he
        have HMADE := HMADE0
        clear HMADE0 HR3 HC3 HBLK3 hTF1
        go_wp2_with fail
        refine (fs_Read sb S2 F2 k hk w4 HR4.out OK2.out).mono ?_
        rintro e w5 hr
        obtain ⟨ra, rn, rc, er5, rfl, hown, hrn, hle, hc, hb5, -⟩ := read_got hr
        obtain ⟨G, hG⟩ : ∃ G, G = tpGot S2 k := ⟨_, rfl⟩
        rw [← hG] at hown hrn
        have hGl : rn ≤ 1048576 := by rw [hrn, hG]; exact got_le OK2.out k
        have HG := hide hG; have HOWN := hide hown; have HRN := hide hrn
        have HR5 := hide (HR4.out.low hb5)
        have HC5 : Hid (Chg F F2 w w5) := hide (HC4.out.trans (Chg.of_below hb5))
        have HBLK5 := hide (HBLK4.out.low hb5)
        have hsz5 := HC5.out.size
        clear hr hown hrn hb5 hG HR4 HC4 HBLK4
        go_wp2_with fail
        refine (tp_Read G ra rn rc w5 HRN.out (by have := ownsRow_rd HOWN.out; unfold RdB; rw [← HRN.out]; exact this) hle hc hGl (fun j hj => (HOWN.out.lt j hj).2)).mono ?_
        rintro e w6 ⟨na, nc, xs, rfl, hat, hxs, hb6⟩
        obtain ⟨nx, hnx⟩ : ∃ nx, nx = (tpRead G).2 := ⟨_, rfl⟩
        obtain ⟨m, hm⟩ : ∃ m, m = xs.length := ⟨_, rfl⟩
        rw [← hm] at hat ⊢
        rw [← hnx]
        have HNX := hide hnx; have HM := hide hm; have HXS := hide hxs; have HAT := hide hat
        have HR6 := hide (HR5.out.low hb6)
        have HC6 : Hid (Chg F F2 w w6) := hide (HC5.out.trans (Chg.of_below hb6))
        have HBLK6 := hide (HBLK5.out.low hb6)
        have hfar6 : Hid (NFar F2 (.slice na m nc) xs) := hide (hat.far fun j hj => HR5.out.lt j hj)
        have hfin : Hid (∀ w' F', FsRep w' sb (tpCut S2 k) F' → Chg F F' w w' → TpBlk w' w.heap.size sb k → w.heap.size ∉ F' → NotesAt w5.heap.size w' (.slice na m nc) xs → NFar F' (.slice na m nc) xs → TpOpTold sb s k F w (.returned (.tuple #[.pointer (some ⟨w.heap.size, 0, none⟩), .slice na m nc, .int .u16 0])) w') := hide fun w' F' z1 z2 z3 z4 z5 z6 => by
          unfold TpOpTold
          rw [HOPEN.out, HMADE.out, if_neg (by simp)]
          refine ⟨F', z1, z2, .inr ⟨rfl, w.heap.size, na, nc, xs, by rw [← HM.out], z3, Nat.le_refl _, z4, ?_, ?_, ?_⟩⟩
          · rw [← HM.out]; exact z5.base hsz5
          · rw [HXS.out, HG.out]
          · rw [← HM.out]; exact z6
        clear hnx hm hxs hat hb6 HR5 HC5 HBLK5
        by_cases hcut : nx < rn
        · have d5 : decide ((nx : Int) < rn) = true := by simpa using hcut
          have d6 : decide (nx < rn) = true := by simpa using hcut
          have hce : Hid (tpCut S2 k = (fsCut S2 k (nx : Nat)).2) := hide (by unfold tpCut; rw [← HG.out, ← HNX.out, if_pos (by rw [← HRN.out]; exact hcut)])
          clear hcut
          go_wp2_with fail
          refine (fs_Cut sb S2 F2 k hk (nx : Nat) w6 HR6.out OK2.out).mono ?_
          rintro e w7 ⟨rfl, ht⟩
          rw [← hce.out] at ht
          obtain ⟨F3, hr3, hc3⟩ := ht
          have hn7 := HAT.out.chg hfar6.out hc3
          have HFIN := hide (hfin.out w7 F3 hr3 (HC6.out.trans hc3) (HBLK6.out.chg hc3 hTF2.out) (fun hm => by
            rcases hc3.fresh _ hm with h1 | h1
            · exact hTF2.out h1
            · have := HBLK6.out.lt
              omega) hn7.1 hn7.2)
          clear hr3 hc3 hn7
          go_wp2
          go_ret3
          exact HFIN.out
        · have d5 : decide ((nx : Int) < rn) = false := decide_eq_false (by omega)
          have d6 : decide (nx < rn) = false := by simpa using hcut
          have hce : Hid (tpCut S2 k = S2) := hide (by unfold tpCut; rw [← HG.out, ← HNX.out, if_neg (by rw [← HRN.out]; exact hcut)])
          clear hcut
          have HFIN := hide (hfin.out w6 F2 (by rw [hce.out]; exact HR6.out) HC6.out HBLK6.out hTF2.out HAT.out hfar6.out)
          go_wp2
          go_ret3
          exact HFIN.out
      · have e2 : (er != 0) = true := by simpa using he
        have e3 : (er == 0) = false := by simpa using he
        have hend : Hid (TpOpTold sb s k F w (.returned (.tuple #[.pointer none, .slice none 0 0, .int .u16 er])) w4) := hide (by
          unfold TpOpTold
          rw [HOPEN.out, HMADE0.out, if_pos he]
          exact ⟨F2, HR4.out, HC4.out, .inl ⟨he, rfl⟩⟩)
        clear he
        go_wp2
        go_ret3
        exact hend.out
end Go.Proofs.YtglgjakjhkdoaaaGreatDoor
