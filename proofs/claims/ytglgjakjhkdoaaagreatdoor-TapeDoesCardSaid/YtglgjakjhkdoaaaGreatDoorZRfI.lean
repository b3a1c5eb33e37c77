/-
  The document's file system: Cut.  (Printed by gen_rf.py.)
-/
import Derived.Test.YtglgjakjhkdoaaaGreatDoorZRfH
namespace Go.Proofs.YtglgjakjhkdoaaaGreatDoor
open Go.RowKit Go.Maps
set_option linter.unusedVariables false
set_option linter.unusedSimpArgs false

theorem ownsRow_cut {w : World} {B e n m c : Nat} {a : Option Addr} {xs : List Value} (h : w.ownsRow B e 1 (.slice a n c) n xs) (hm : m ≤ n) : w.ownsRow B e 1 (.slice a m c) m (xs.take m) := by
  refine ⟨by rw [List.length_take, h.1]; omega, ?_⟩
  rcases h.2 with ⟨h1, h2⟩ | ⟨g, cap, cur, h1, h2, h3, h4, h5, h6, h7⟩
  · simp only [Value.slice.injEq] at h1
    obtain ⟨rfl, _, rfl⟩ := h1
    exact .inl ⟨by rw [show m = 0 by omega], by omega⟩
  · simp only [Value.slice.injEq] at h1
    obtain ⟨rfl, _, rfl⟩ := h1
    refine .inr ⟨g, c, cur, rfl, h2, h3, by omega, h5, h6, ?_⟩
    rw [← h7, List.take_take]
    congr 1
    omega
structure Like (a b : World) : Prop where
  heap : b.heap = a.heap
  os : b.os = a.os
  tape : b.tape = a.tape
  output : b.output = a.output
theorem Like.cell {a b : World} (h : Like a b) (p : Addr) : b.cell? p = a.cell? p := by unfold World.cell?; rw [h.heap]
theorem Like.frozen {a b : World} (h : Like a b) (p : Addr) : b.frozen? p = a.frozen? p := by unfold World.frozen?; rw [h.heap]
theorem Like.set {a b : World} (h : Like a b) (p : Addr) (v : Value) : Like (a.setCell p v) (b.setCell p v) := ⟨by simp [World.setCell, h.heap], h.os, h.tape, h.output⟩
theorem Like.chg {a b : World} (h : Like a b) (F : List Nat) : Chg F F a b := ⟨h.os, h.tape, h.output, by rw [h.heap]; exact Nat.le_refl _, fun k _ _ => by rw [h.heap], fun k hk => .inl hk⟩
theorem Chg.more {w w' : World} {F F' : List Nat} (h : Chg F F' w w') (X : List Nat) (hX : ∀ b ∈ X, w.heap.size ≤ b) : Chg F (F' ++ X) w w' := ⟨h.os, h.tape, h.output, h.size, h.block, fun b hb => by
  rcases List.mem_append.1 hb with hb | hb
  · exact h.fresh b hb
  · exact .inr (hX b hb)⟩
theorem RfIn.toX {w w' : World} {rb : Nat} {s' : FsS} {fa pa fa' pa' : Option Addr} {fc' pc' : Nat} {lv' : Int} {E L E' L' : List (Bs × Ent)} {X : List Nat} (h' : RfIn w' rb s' fa' fc' pa' pc' lv' E' L') (hc : Chg (G0 rb fa pa) (G0 rb fa' pa') w w')
    (hb : ∀ b ∈ ebs (E' ++ L'), b ∈ ebs (E ++ L) ∨ b ∈ X ∨ w.heap.size ≤ b) : ∃ F', RfRep w' rb s' F' ∧ Chg (rfBl rb fa pa E L ++ X) F' w w' := by
  refine ⟨_, ⟨fa', fc', pa', pc', lv', E', L', h', rfl⟩, hc.os, hc.tape, hc.output, hc.size, fun k hk hn => hc.block k hk fun hm => hn (by rw [rfBl_G0]; exact List.mem_append_left _ (List.mem_append_left _ hm)), fun k hk => ?_⟩
  rw [rfBl_G0] at hk ⊢
  rcases List.mem_append.1 hk with hk | hk
  · exact (hc.fresh k hk).imp (fun h => List.mem_append_left _ (List.mem_append_left _ h)) id
  · rcases hb k hk with h | h | h
    · exact .inl (List.mem_append_left _ (List.mem_append_right _ h))
    · exact .inl (List.mem_append_right _ h)
    · exact .inr h
theorem bcells_take (b : List UInt8) (m : Nat) : bcells (b.take m) = (bcells b).take m := by unfold bcells; rw [List.map_take]

set_option maxRecDepth 100000 in
set_option maxHeartbeats 3200000 in
theorem rf_Cut (rb : Nat) (s : FsS) (F : List Nat) (k : Bs) (hk : k.length ≤ maxLen) (x : Int) (w : World) (h : RfRep w rb s F) (ok : s.Ok) :
    Calls Tryz.prog 54 #[.pointer (some ⟨rb, 0, none⟩), .string ⟨k.toArray⟩, .int .i64 x] w fun e w' => e = .returned (.int .i64 (fsCut s k x).1) ∧ RfTo w rb F (fsCut s k x).2 w' := by
  have H := hide h
  have OK := hide ok
  have HF := hide (rf_find' rb s F k hk w h ok)
  obtain ⟨hb, hhb⟩ : ∃ hb, hb = s.has k := ⟨_, rfl⟩
  obtain ⟨j0, hj0⟩ : ∃ j0, j0 = posF k s.files := ⟨_, rfl⟩
  rw [← hhb, ← hj0] at HF
  have HJ0 := hide hj0
  have HHB := hide hhb
  clear h ok hhb hj0
  cases hb with
  | false =>
    have e : fsCut s k x = (80, s) := by simp [fsCut, ← HHB.out]
    rw [e]
    clear e
    go_enter Tryz.func54, Tryz.ntmps54
    go_wp2_with (refine HF.out.mono ?_; rintro e w1 ⟨rfl, hb1⟩; have HB1 := hide hb1; clear hb1)
    go_ret
    exact ⟨rfl, RfTo.rest H.out HB1.out⟩
  | true =>
    obtain ⟨G, hG⟩ : ∃ G, G = s.get k := ⟨_, rfl⟩
    have HG := hide hG
    clear hG
    have hGl : G.length ≤ 1048576 := by have h1 := get_total s k; have h2 := OK.out.used_le; rw [HG.out]; omega
    by_cases hbad : x < 0 ∨ (G.length : Int) < x
    · have e : fsCut s k x = (1, s) := by simp [fsCut, ← HHB.out, ← HG.out, hbad]
      rw [e]
      clear e
      by_cases hx0 : x < 0
      · have d0 : decide (x < 0) = true := decide_eq_true hx0
        go_enter Tryz.func54, Tryz.ntmps54
        go_wp2_with fail
        refine HF.out.mono ?_
        rintro e w1 ⟨rfl, hb1⟩
        have HB1 := hide hb1
        clear hb1
        go_wp2_with fail
        refine (rf_Read rb s F k hk w1 (H.out.low HB1.out) OK.out).mono ?_
        rintro e w2 hr
        unfold RfTold at hr
        rw [← HHB.out, if_pos rfl, ← HG.out] at hr
        obtain ⟨ra, rn, rc, rfl, hfr⟩ := hr
        obtain rfl : rn = G.length := hfr.2.1
        have HFR := hide hfr
        clear hfr
        go_wp2
        go_ret
        exact ⟨rfl, RfTo.rest H.out (HB1.out.trans (HFR.out.2.2.mono HB1.out.size))⟩
      · have d0 : decide (x < 0) = false := decide_eq_false hx0
        have d1 : decide ((G.length : Int) < x) = true := decide_eq_true (by omega)
        go_enter Tryz.func54, Tryz.ntmps54
        go_wp2_with fail
        refine HF.out.mono ?_
        rintro e w1 ⟨rfl, hb1⟩
        have HB1 := hide hb1
        clear hb1
        go_wp2_with fail
        refine (rf_Read rb s F k hk w1 (H.out.low HB1.out) OK.out).mono ?_
        rintro e w2 hr
        unfold RfTold at hr
        rw [← HHB.out, if_pos rfl, ← HG.out] at hr
        obtain ⟨ra, rn, rc, rfl, hfr⟩ := hr
        obtain rfl : rn = G.length := hfr.2.1
        have HFR := hide hfr
        clear hfr
        go_wp2
        go_ret
        exact ⟨rfl, RfTo.rest H.out (HB1.out.trans (HFR.out.2.2.mono HB1.out.size))⟩
    · obtain ⟨y, rfl⟩ : ∃ y : Nat, x = (y : Int) := ⟨x.toNat, by omega⟩
      have hyG : y ≤ G.length := by omega
      have d0 : decide ((y : Int) < 0) = false := decide_eq_false (by omega)
      have d1 : decide ((G.length : Int) < (y : Int)) = false := decide_eq_false (by omega)
      obtain ⟨gb, hgb⟩ : ∃ gb, gb = s.go := ⟨_, rfl⟩
      have HGB := hide hgb
      clear hgb
      cases gb with
      | false =>
        have e : fsCut s k (y : Int) = (0, s.went) := by simp [fsCut, ← HHB.out, ← HGB.out, ← HG.out]; omega
        rw [e]
        clear e
        go_enter Tryz.func54, Tryz.ntmps54
        go_wp2_with fail
        refine HF.out.mono ?_
        rintro e w1 ⟨rfl, hb1⟩
        have HB1 := hide hb1
        clear hb1
        go_wp2_with fail
        refine (rf_Read rb s F k hk w1 (H.out.low HB1.out) OK.out).mono ?_
        rintro e w2 hr
        unfold RfTold at hr
        rw [← HHB.out, if_pos rfl, ← HG.out] at hr
        obtain ⟨ra, rn, rc, rfl, hfr⟩ := hr
        obtain rfl : rn = G.length := hfr.2.1
        have HFR := hide hfr
        clear hfr
        go_wp2_with (refine (rf_stopped rb s F _ (H.out.low (HB1.out.trans (HFR.out.2.2.mono HB1.out.size))) OK.out).mono ?_; rintro e w3 ⟨rfl, ht⟩; rw [← HGB.out]; have HT := hide ht; clear ht)
        go_ret
        exact ⟨rfl, RfTo.after (HB1.out.trans (HFR.out.2.2.mono HB1.out.size)) HT.out⟩
      | true =>
        have e : fsCut s k (y : Int) = (0, { s.went with files := mput strL k (G.take y) s.went.files, waits := mdel k s.went.waits }) := by
          have hc : ¬ ((y : Int) < 0 ∨ (G.length : Int) < (y : Int)) := by omega
          unfold fsCut
          rw [← HHB.out, ← HG.out, if_neg (by simp), if_neg hc, ← HGB.out, if_pos rfl, (went_parts s).2.1, (went_parts s).2.2]
          rfl
        rw [e]
        clear e
        obtain ⟨iP, hiP, hyP0, hyP1, hyP2⟩ := info_parts piece_info
        go_enter Tryz.func54, Tryz.ntmps54
        go_wp2_with fail
        refine HF.out.mono ?_
        rintro e w1 ⟨rfl, hb1⟩
        have HB1 := hide hb1
        clear hb1
        go_wp2_with fail
        refine (rf_Read rb s F k hk w1 (H.out.low HB1.out) OK.out).mono ?_
        rintro e w2 hr
        unfold RfTold at hr
        rw [← HHB.out, if_pos rfl, ← HG.out] at hr
        obtain ⟨ra, rn, rc, rfl, hfr⟩ := hr
        obtain rfl : rn = G.length := hfr.2.1
        have HFR := hide hfr
        clear hfr
        go_wp2_with fail
        refine (rf_stopped rb s F _ (H.out.low (HB1.out.trans (HFR.out.2.2.mono HB1.out.size))) OK.out).mono ?_
        rintro e w3 ⟨rfl, ht⟩
        rw [← HGB.out]
        obtain ⟨F2, hf2, hc2⟩ := ht
        have HC2 := hide hc2
        obtain ⟨fa, fc, pa, pc, lv, E, L, h3, hF2⟩ := hf2
        have hFlt : ∀ j ∈ F, j < w1.heap.size := fun j hj => (H.out.low HB1.out).lt j hj
        have hkeep : ∀ j, (Value.slice ra G.length rc).ownBlock = some j → w3.heap[j]? = w2.heap[j]? := fun j hj => hc2.block j (HFR.out.ge j hj).2 fun hm => by have h5 := (HFR.out.ge j hj).1; have := hFlt j hm; omega
        have hxE : EX w3 (⟨G.take y, ra, y, rc⟩ : Ent) := by
          have h5 := ownsRow_same HFR.out.1 hkeep
          refine ⟨?_, by show y = (G.take y).length; rw [List.length_take]; omega⟩
          show w3.ownsRow 0 _ 1 (.slice ra y rc) y (bcells (G.take y))
          rw [bcells_take]
          exact ownsRow_base (ownsRow_cut h5 hyG) (Nat.zero_le _)
        have hge : ∀ b, (Value.slice ra y rc).ownBlock = some b → w1.heap.size ≤ b := fun b hb => (HFR.out.ge b (by rw [ownBlock_sl ra G.length rc y rc]; exact hb)).1
        have hfr0 : ∀ b, (Value.slice ra y rc).ownBlock = some b → b ∉ ebs (E ++ L) := fun b hb hm => by
          have h6 : b ∈ F2 := by rw [hF2, rfBl_G0]; exact List.mem_append_right _ hm
          have h7 := HFR.out.ge b (by rw [ownBlock_sl ra G.length rc y rc]; exact hb)
          rcases hc2.fresh b h6 with h8 | h8
          · have := hFlt b h8; omega
          · omega
        have hj : j0 = posF k E := by rw [HJ0.out, ← (went_parts s).2.1, h3.files, posF_ct]
        obtain ⟨e0, hg0⟩ : ∃ e0, mget k E = some e0 := Option.isSome_iff_exists.1 (by rw [← h3.has k, went_has]; exact HHB.out.symm)
        have hp := (posF_has h3.rise e0).1 hg0
        rw [← hj] at hp
        obtain ⟨g, rfl, c0, c1, hgl, cf⟩ := erow_get h3.frow rfl hp
        obtain ⟨n, hn⟩ : ∃ n, n = E.length := ⟨_, rfl⟩
        obtain ⟨m, hm⟩ : ∃ m, m = L.length := ⟨_, rfl⟩
        have hjn : j0 < n := by rw [hn]; exact (List.getElem?_eq_some_iff.1 hp).1
        have f1 := (rf_cells h3.blk).2.1
        rw [← hn] at f1
        have hL : m ≤ 1048576 := by rw [hm]; exact (h3.short OK.out.went).2.1
        have HM := hide hm
        have cf1 := cf (j0 * 2 + 1)
        obtain ⟨q1, q2⟩ := h3.setB (s' := { s.went with files := mput strL k (G.take y) s.went.files }) (e := ⟨G.take y, ra, y, rc⟩) hj hg0 hxE hfr0 rfl rfl rfl rfl rfl
        obtain ⟨X, hX⟩ : ∃ X, X = (Value.slice ra y rc).ownBlock.toList := ⟨_, rfl⟩
        have HX1 : Hid (∀ b ∈ X, w1.heap.size ≤ b) := hide fun b hb => by rw [hX] at hb; exact hge b (by simpa using hb)
        have HSUB : Hid (∀ b ∈ ebs (mput strL k (⟨G.take y, ra, y, rc⟩ : Ent) E ++ mdel k L), b ∈ ebs (E ++ L) ∨ b ∈ X ∨ w3.heap.size ≤ b) := hide fun b hb => by
          obtain ⟨p, hp, hk⟩ := mem_ebs.1 hb
          rcases List.mem_append.1 hp with hp | hp
          · rcases (mput_mem _ _ _ _ _).1 hp with rfl | ⟨h5, _⟩
            · exact .inr (.inl (by rw [hX]; exact Option.mem_toList.2 hk))
            · exact .inl (mem_ebs.2 ⟨p, List.mem_append_left _ h5, hk⟩)
          · exact .inl (mem_ebs.2 ⟨p, List.mem_append_right _ ((mdel_sub k L).subset hp), hk⟩)
        obtain ⟨W1, hW1⟩ : ∃ W1, W1 = w3.setCell ⟨g, j0 * 2 + 1, none⟩ (.slice ra y rc) := ⟨_, rfl⟩
        have HIN1 := hide (show RfIn W1 rb { s.went with files := mput strL k (G.take y) s.went.files } (some ⟨g, 0, none⟩) fc pa pc lv (mput strL k ⟨G.take y, ra, y, rc⟩ E) L by rw [hW1]; exact q1)
        have hCW : Hid (Chg (G0 rb (some ⟨g, 0, none⟩) pa) (G0 rb (some ⟨g, 0, none⟩) pa) w3 W1) := hide (by rw [hW1]; exact q2)
        have HF2 := hide hF2
        have hrc : y ≤ rc := by have := HFR.out.cap.1; omega
        have hcm := HFR.out.cap.2
        clear q1 q2 hfr0 cf c0 hn hm hp hg0 hj h3 hF2 hc2 hFlt hkeep hxE hge hX
        have HSL : Hid ((ra = none ∧ G.length = 0 ∧ rc = 0) ∨ ∃ g9, ra = some ⟨g9, 0, none⟩) := hide (by
          rcases HFR.out.1.2 with ⟨h5, h6⟩ | ⟨g9, cap, cur, h5, _⟩
          · simp only [Value.slice.injEq] at h5
            exact .inl ⟨h5.1, h6, h5.2.2⟩
          · simp only [Value.slice.injEq] at h5
            exact .inr ⟨g9, h5.1⟩)
        go_wp2_with fail
        refine wp_region_three 11 82 (by kernel_rfl) (by kernel_rfl) rfl (by kernel_rfl) (fun D v w' => (D 10 = false → Like w3 w') ∧ (D 10 = true → Like W1 w')) (fun _ => undef) ⟨fun _ => ⟨rfl, rfl, rfl, rfl⟩, fun h => by cases h⟩ ?_
        simp only [List.take_succ_cons, List.take_zero, List.drop_succ_cons, List.drop_zero]
        iterate 3 (refine Hav3.read (e := ?_) (fun v => by rfl) (fun D v w h => h) (fun D v w' hD hS => ?_) ?_; rotate_left; (skip; clear hS hD; first | (go_simp; done) | (go_simp; with_reducible rfl)); go_simp)
        iterate 1 (refine Hav3.read (e := ?_) (fun v => by rfl) (fun D v w h => h) (fun D v w' hD hS => ?_) ?_; rotate_left; (have f1 := ((hS.1 (hD.post 10 _ rfl (by kernel_rfl))).cell _).trans f1; clear hS hD; first | (go_simp; done) | (go_simp; with_reducible rfl)); go_simp)
        iterate 3 (refine Hav3.read (e := ?_) (fun v => by rfl) (fun D v w h => h) (fun D v w' hD hS => ?_) ?_; rotate_left; (skip; clear hS hD; first | (go_simp; done) | (go_simp; with_reducible rfl)); go_simp)
        refine Hav3.read (e := .slice ra y rc) (fun v => by rfl) (fun D v w h => h) (fun D v w' hD hS => ?_) ?_
        · clear hS hD
          rcases HSL.out with ⟨rfl, hz1, hz2⟩ | ⟨g9, rfl⟩
          · obtain rfl : y = 0 := by omega
            subst hz2
            rw [hz1]
            go_simp
          · go_simp
        go_simp
        iterate 2 (refine Hav3.read (e := ?_) (fun v => by rfl) (fun D v w h => h) (fun D v w' hD hS => ?_) ?_; rotate_left; (skip; clear hS hD; first | (go_simp; done) | (go_simp; with_reducible rfl)); go_simp)
        refine Hav3.rel (fun v => by rfl) (fun D v w' hD hS => ?_) ?_
        · have hk := hS.1 hD.self
          have c1 := (hk.cell _).trans c1
          have cf1 := (hk.frozen _).trans cf1
          have HK := hide hk
          clear hS hD hk
          go_simp
          first | exact ⟨(fun h => by cases h), (fun _ => HK.out.set _ _)⟩ | exact ⟨(fun h => by cases h), (fun _ => by rw [hW1]; exact HK.out.set _ _)⟩
        refine Hav3.fin (fun v w4 hS => ?_)
        have hlk : Like W1 w4 := by rw [hW1]; exact hS.2 rfl
        have HIN4 := hide (show RfIn w4 rb { s.went with files := mput strL k (G.take y) s.went.files } (some ⟨g, 0, none⟩) fc pa pc lv (mput strL k ⟨G.take y, ra, y, rc⟩ E) L from HIN1.out.same fun b _ => by rw [hlk.heap])
        have hC4 : Hid (Chg (G0 rb (some ⟨g, 0, none⟩) pa) (G0 rb (some ⟨g, 0, none⟩) pa) w3 w4) := hide (hCW.out.trans (hlk.chg _))
        obtain ⟨E1, hE1⟩ : ∃ E1, E1 = mput strL k (⟨G.take y, ra, y, rc⟩ : Ent) E := ⟨_, rfl⟩
        rw [← hE1] at HIN4 HSUB
        clear hE1 hS hlk hCW HIN1 hW1 f1 c1 cf1
        have hfin : Hid (∀ wr2 oa2 oc2 on2, ENew 73 w4 wr2 (.slice oa2 on2 oc2) on2 (mdel k L) → RfTo w rb F { s.went with files := mput strL k (G.take y) s.went.files, waits := mdel k s.went.waits } (wr2.setCell ⟨rb, 2, none⟩ (.slice oa2 on2 oc2))) := hide fun wr2 oa2 oc2 on2 hN => by
          obtain ⟨q1, q2⟩ := HIN4.out.setP (s' := { s.went with files := mput strL k (G.take y) s.went.files, waits := mdel k s.went.waits }) hN rfl rfl rfl (by show mdel k s.went.waits = _; rw [mdelE_ct, ← HIN4.out.waits]) rfl (fun p hp => HIN4.out.ent p (List.mem_append_right _ ((mdel_sub k L).subset hp))) ((ebs_sub ((List.Sublist.refl E1).append (mdel_sub k L))).nodup HIN4.out.ex)
          obtain ⟨F3, r1, r2⟩ := q1.toX (hC4.out.trans q2) HSUB.out
          rw [← HF2.out] at r2
          have r3 := ((chg_of_below (F := F) HFR.out.2.2).trans HC2.out).more X HX1.out
          exact RfTo.after HB1.out ⟨F3, r1, r3.trans r2⟩
        go_wp2
        go_loopw [12, 13] (fun ov iv wr => ∃ (i : Nat) (oa : Option Addr) (on oc : Nat), ov = .slice oa on oc ∧ iv = .int .i64 i ∧ i ≤ m ∧ on ≤ i ∧ Hid (ENew 73 w4 wr (.slice oa on oc) on (mdel k (L.take i)))) (fun _ iv _ => match iv with | .int _ j => m - j.toNat | _ => 0)
        case atStart => exact ⟨0, none, 0, 0, rfl, rfl, Nat.zero_le _, Nat.le_refl _, hide (by have := ENew.nil 73 w4 w4 (Below.refl _ _); simpa [mdel] using this)⟩
        case round =>
          obtain ⟨i, oa, on, oc, rfl, rfl, hi, hon, hT⟩ := hrel
          have hlow := hide hT.out.low
          have h1 := hide (HIN4.out.low hlow.out)
          have f1 := (rf_cells h1.out.blk).2.2.1
          rw [← HM.out] at f1
          by_cases hil : i < m
          · obtain ⟨p, hp⟩ : ∃ p, L[i]? = some p := ⟨_, List.getElem?_eq_getElem (by have := HM.out; omega)⟩
            obtain ⟨g, rfl, c0, c1, hgl, cf⟩ := erow_get h1.out.prow rfl hp
            obtain ⟨pk, pb, xa, xn, xc⟩ := p
            have HTK := hide (takeE_step hp)
            have hd : decide ((i : Int) < m) = true := by simpa using hil
            have hwi : IntKind.i64.wrap ((i : Int) + 1) = (i : Int) + 1 := wrap64 (by omega) (by omega)
            simp only at c0 c1
            clear hp cf h1
            by_cases he : pk = k
            · have heb : (pk == k) = true := by simpa using he
              have hnb : (pk != k) = false := by simpa using he
              have hT2 : Hid (ENew 73 w4 wr (.slice oa on oc) on (mdel k (L.take (i + 1)))) := hide (by
                rw [HTK.out, mdelE_app]
                have e : mdel k [((pk, ⟨pb, xa, xn, xc⟩) : Bs × Ent)] = [] := by simp [mdel, he]
                rw [e, List.append_nil]
                exact hT.out)
              go_wp2
              refine ⟨⟨i + 1, oa, on, oc, rfl, by simp, hil, by omega, hT2⟩, ?_⟩
              show m - ((i : Int) + 1).toNat < m - ((i : Nat) : Int).toNat
              omega
            · have heb : (pk == k) = false := by simpa using he
              have hnb : (pk != k) = true := by simpa using he
              have hrow4 : Hid (∀ o, (wr.alloc o).ownsRow w4.heap.size 73 2 (.slice oa on oc) on (eflat (mdel k (L.take i)))) := hide fun o => hT.out.row.alloc o
              have hsz := hlow.out.size
              go_wp2_with (at_builtin; refine wpList_append_rd rfl (.tmp 68) (.tmp 76) 61 rfl w4.heap.size 73 iP (.agg #[.string ⟨#[]⟩, .slice none 0 0]) 2 40 Tryz.underlying61 hiP hyP0 hyP1 hyP2 rfl (by decide) (.slice oa on oc) on _ rfl (hrow4.out _) (.slice (some ⟨wr.heap.size, 0, none⟩) 1 1) 1 [.string ⟨pk.toArray⟩, .slice xa xn xc] rfl (rd_newE wr #[.string ⟨pk.toArray⟩, .slice xa xn xc] 73 wr.heap.size 1 2 rfl (by decide) rfl) (by simp [Value.oneCell']) (by unfold maxLen; omega) (by omega) (by simp; omega) ?_; intro v1 w3 hown hgr hnil hv; obtain ⟨oa1, oc1, rfl⟩ := slice_of_row hown; have HOWN := hide hown; have HGR := hide hgr; clear hown hgr hnil hv)
              have hT2 : ENew 73 w4 w3 (.slice oa1 (on + 1) oc1) (on + 1) (mdel k (L.take i) ++ [((pk, ⟨pb, xa, xn, xc⟩) : Bs × Ent)]) := hT.out.app (l' := [((pk, ⟨pb, xa, xn, xc⟩) : Bs × Ent)]) (below_alloc wr _) HOWN.out rfl HGR.out
              refine ⟨⟨i + 1, oa1, on + 1, oc1, by simp, by simp, hil, by omega, hide ?_⟩, ?_⟩
              · rw [HTK.out, mdelE_app]
                have e : mdel k [((pk, ⟨pb, xa, xn, xc⟩) : Bs × Ent)] = [((pk, ⟨pb, xa, xn, xc⟩) : Bs × Ent)] := by simp [mdel, he]
                rw [e]
                exact hT2
              · show m - ((i : Int) + 1).toNat < m - ((i : Nat) : Int).toNat
                omega
          · have hin := hide (show i = m by omega)
            have hd : decide ((i : Int) < m) = false := decide_eq_false (by omega)
            have hT2 : Hid (ENew 73 w4 wr (.slice oa on oc) on (mdel k L)) := hide (by
              have := hT.out
              rw [hin.out, HM.out, List.take_length] at this
              exact this)
            have c2 := (rf_cells h1.out.blk).2.2.2.2.2.2.1 2
            clear hT h1
            go_wp2
            go_ret
            exact ⟨rfl, hfin.out _ _ _ _ hT2.out⟩
end Go.Proofs.YtglgjakjhkdoaaaGreatDoor
