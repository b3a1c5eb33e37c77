/-
  The document's file system: Append.
-/
import Derived.Test.YtglgjakjhkdoaaaGreatDoorZRfERfF
namespace Go.Proofs.YtglgjakjhkdoaaaGreatDoor
open Go.RowKit Go.Maps
set_option linter.unusedVariables false
set_option linter.unusedSimpArgs false

theorem RfIn.addP {w w3 : World} {rb : Nat} {s s' : FsS} {fa pa oa : Option Addr} {fc pc oc : Nat} {lv : Int} {E L : List (Bs × Ent)} {k : Bs} {e : Ent} (h : RfIn w rb s fa fc pa pc lv E L) (hx : EX w e) (hex : ∀ b, e.v.ownBlock = some b → b ∉ ebs (E ++ L))
    (hrow : w3.ownsRow 0 73 2 (.slice oa (L.length + 1) oc) (L.length + 1) (eflat L ++ eflat [(k, e)])) (hg : w.grownBy w3 (Value.slice pa L.length pc).ownBlock) (hv : (Value.slice oa (L.length + 1) oc).ownBlock = (Value.slice pa L.length pc).ownBlock ∨ (Value.slice oa (L.length + 1) oc).ownBlock = some w.heap.size)
    (hr : s'.room = s.room) (hl : s'.left = s.left) (hh : s'.halted = s.halted) (hw : s'.waits = s.waits ++ [(k, e.b)]) (hf : s'.files = s.files) :
    RfIn (w3.setCell ⟨rb, 2, none⟩ (.slice oa (L.length + 1) oc)) rb s' fa fc oa oc lv E (L ++ [(k, e)]) ∧ Chg (G0 rb fa pa) (G0 rb fa oa) w (w3.setCell ⟨rb, 2, none⟩ (.slice oa (L.length + 1) oc)) := by
  have hrb := (rf_cells h.blk).2.2.2.2.2.2.2
  obtain ⟨n1, n2, n3⟩ := h.ne
  have hold : ∀ b, b < w.heap.size → b ≠ rb → (Value.slice pa L.length pc).ownBlock ≠ some b → (w3.setCell ⟨rb, 2, none⟩ (.slice oa (L.length + 1) oc)).heap[b]? = w.heap[b]? := fun b hb hn hp => (heap_set_ne hn).trans (hg.block b hb fun e => hp e.symm)
  have hne : ∀ b, b ≠ rb → (w3.setCell ⟨rb, 2, none⟩ (.slice oa (L.length + 1) oc)).heap[b]? = w3.heap[b]? := fun b hb => heap_set_ne hb
  have e1 : w3.heap[rb]? = w.heap[rb]? := hg.block rb hrb fun e => n2 e.symm
  have hlen : (L ++ [(k, e)]).length = L.length + 1 := by simp
  have hoff : ∀ p, p = (k, e) ∨ p ∈ E ++ L → EX w p.2 ∧ p.2.v.ownBlock ≠ some rb ∧ ∀ b, p.2.v.ownBlock = some b → (Value.slice pa L.length pc).ownBlock ≠ some b := fun p hp => by
    have hx' : EX w p.2 := by
      rcases hp with rfl | hp
      · exact hx
      · exact h.ent p hp
    exact ⟨hx', ownsRow_off hx'.own h.blk (by decide), fun b hb => ownsRow_ty hx'.own h.prow (by decide) hb⟩
  refine ⟨⟨?_, ?_, ?_, fun p hp => ?_, ?_, fun n hn => h.left n (hl ▸ hn), hf.trans h.files, ?_, h.rise⟩, ⟨hg.os, hg.tape, hg.output, by simpa using hg.size, fun b hb hn => hold b hb (fun e => hn (by rw [mem_G0]; exact .inl e)) fun e => hn (by rw [mem_G0]; exact .inr (.inr (by rw [ownBlock_sl pa 0 0 L.length pc]; exact e))), fun b hb => ?_⟩⟩
  · rw [hr, hl, hh, hlen]
    have := setCell_heap (e1.trans h.blk) 2 (.slice oa (L.length + 1) oc)
    simpa using this
  · exact ownsRow_same h.frow fun b hb => hold b (h.frow.lt b hb).2 (fun e => n1 (e ▸ hb)) (ownsRow_ty h.frow h.prow (by decide) hb)
  · rw [hlen, eflat_append]
    refine ownsRow_same hrow fun b hb => hne b fun e => ?_
    rcases hv with h2 | h2
    · rw [h2, e] at hb; exact n2 hb
    · rw [h2] at hb
      simp only [Option.some.injEq] at hb
      omega
  · have hp' : p = (k, e) ∨ p ∈ E ++ L := by
      rcases List.mem_append.1 hp with hp | hp
      · exact .inr (List.mem_append_left _ hp)
      · rcases List.mem_append.1 hp with hp | hp
        · exact .inr (List.mem_append_right _ hp)
        · exact .inl (List.mem_singleton.1 hp)
    obtain ⟨q1, q2, q3⟩ := hoff p hp'
    exact q1.same fun b hb => hold b (q1.lt hb) (fun e => q2 (e ▸ hb)) (q3 b hb)
  · rw [← List.append_assoc, ebs_append]
    refine List.nodup_append.2 ⟨h.ex, ?_, fun a ha b hb => ?_⟩
    · unfold ebs
      simp only [List.flatMap_cons, List.flatMap_nil, List.append_nil]
      cases e.v.ownBlock <;> simp
    · rintro rfl
      obtain ⟨p, hp, hk⟩ := mem_ebs.1 hb
      rw [List.mem_singleton] at hp
      subst hp
      exact hex _ hk ha
  · rw [hw, h.waits, List.map_append]
    rfl
  · rw [mem_G0] at hb ⊢
    rcases hb with hb | hb | hb
    · exact .inl (.inl hb)
    · exact .inl (.inr (.inl hb))
    · rw [ownBlock_sl oa 0 0 (L.length + 1) oc] at hb
      rcases hv with h2 | h2
      · rw [h2, ownBlock_sl pa L.length pc 0 0] at hb
        exact .inl (.inr (.inr hb))
      · rw [h2] at hb
        simp only [Option.some.injEq] at hb
        exact .inr (by omega)

set_option maxRecDepth 100000 in
set_option maxHeartbeats 3200000 in
theorem rf_Append (rb : Nat) (s : FsS) (F : List Nat) (k : Bs) (hk : k.length ≤ maxLen) (a : Option Addr) (n c : Nat) (b : Bs) (w : World) (h : RfRep w rb s F) (ok : s.Ok) (hx : RdB w (.slice a n c) b) (hn : n = b.length) (hl : n ≤ 1048576) (hfar : 0 < n → ∀ k, (Value.slice a n c).ownBlock = some k → k ∉ F) :
    Calls Tryz.prog 11 #[.pointer (some ⟨rb, 0, none⟩), .string ⟨k.toArray⟩, .slice a n c] w fun e w' => e = .returned (.int .i64 (fsAppend s k b).1) ∧ RfTo w rb F (fsAppend s k b).2 w' := by
  have H := hide h
  have OK := hide ok
  have HX := hide hx
  have HN := hide hn
  have HF := hide (rf_find' rb s F k hk w h ok)
  obtain ⟨hb, hhb⟩ : ∃ hb, hb = s.has k := ⟨_, rfl⟩
  rw [← hhb] at HF
  have HHB := hide hhb
  have hrb : rb < w.heap.size := h.lt rb (by obtain ⟨fa, fc, pa, pc, lv, E, L, h, rfl⟩ := h; simp [rfBl])
  have hroom : Hid (∀ w', Below w.heap.size w w' → w'.cell? ⟨rb, 0, none⟩ = some (.int .i64 s.room)) := hide fun w' hb => by
    obtain ⟨fa, fc, pa, pc, lv, E, L, h9, _⟩ := h.low hb
    exact (rf_cells h9.blk).1
  clear h ok hhb hx hn
  cases hb with
  | false =>
    have e : fsAppend s k b = (80, s) := by simp [fsAppend, ← HHB.out]
    rw [e]
    clear e
    go_enter Tryz.func11, Tryz.ntmps11
    go_wp2_with (refine HF.out.mono ?_; rintro e w1 ⟨rfl, hb1⟩; have HB1 := hide hb1; clear hb1)
    go_ret
    exact ⟨rfl, RfTo.rest H.out HB1.out⟩
  | true =>
    by_cases h0 : n = 0
    · have e : fsAppend s k b = (0, s) := by simp [fsAppend, ← HHB.out, ← HN.out, h0]
      rw [e]
      subst h0
      clear e
      go_enter Tryz.func11, Tryz.ntmps11
      go_wp2_with (refine HF.out.mono ?_; rintro e w1 ⟨rfl, hb1⟩; have HB1 := hide hb1; clear hb1)
      go_ret
      exact ⟨rfl, RfTo.rest H.out HB1.out⟩
    · have z0 : ((n : Int) == 0) = false := by simpa using h0
      have hul := OK.out.used_le
      have hr0 := OK.out.room0
      have hr1 := OK.out.room1
      have hws : IntKind.i64.wrap (s.room - (s.used : Int)) = s.room - (s.used : Int) := wrap64 (by omega) (by omega)
      by_cases hfull : s.room - (s.used : Int) < n
      · have e : fsAppend s k b = (82, s) := by simp [fsAppend, ← HHB.out, ← HN.out, h0, hfull]
        rw [e]
        have df : decide (s.room - (s.used : Int) < (n : Int)) = true := decide_eq_true hfull
        clear e
        go_enter Tryz.func11, Tryz.ntmps11
        go_wp2_with fail
        refine HF.out.mono ?_
        rintro e w1 ⟨rfl, hb1⟩
        have HB1 := hide hb1
        clear hb1
        go_wp2_with fail
        refine wp_region_three 10 51 (by kernel_rfl) (by kernel_rfl) rfl (by kernel_rfl) (fun D v w' => Below w.heap.size w w') (fun _ => undef) HB1.out.drew ?_
        simp only [List.take_succ_cons, List.take_zero, List.drop_succ_cons, List.drop_zero]
        iterate 5 (refine Hav3.read (e := ?_) (fun v => by rfl) (fun D v w h => h) (fun D v w' hD hS => ?_) ?_; rotate_left; (skip; clear hS hD; first | (go_simp; done) | (go_simp; with_reducible rfl)); go_simp)
        iterate 1 (refine Hav3.read (e := ?_) (fun v => by rfl) (fun D v w h => h) (fun D v w' hD hS => ?_) ?_; rotate_left; (have c0 := hroom.out w' hS; clear hS hD; first | (go_simp; done) | (go_simp; with_reducible rfl)); go_simp)
        iterate 1 (refine Hav3.read (e := ?_) (fun v => by rfl) (fun D v w h => h) (fun D v w' hD hS => ?_) ?_; rotate_left; (skip; clear hS hD; first | (go_simp; done) | (go_simp; with_reducible rfl)); go_simp)
        refine Hav3.call (.int .i64 s.used) (fun v => by rfl) (fun D v w' hD hS => ?_) ?_
        · have HS := hide hS
          clear hS hD
          go_simp
          go_at_call 27
          refine (rf_Used rb s F w' (H.out.low HS.out) OK.out).mono ?_
          rintro e w'' ⟨rfl, hb⟩
          exact ⟨rfl, HS.out.trans (hb.mono HS.out.size)⟩
        iterate 2 (refine Hav3.read (e := ?_) (fun v => by rfl) (fun D v w h => h) (fun D v w' hD hS => ?_) ?_; rotate_left; (skip; clear hS hD; first | (go_simp; done) | (go_simp; with_reducible rfl)); go_simp)
        refine Hav3.fin (fun v w' hS => ?_)
        have HS := hide hS
        clear hS
        go_wp2
        go_ret
        exact ⟨rfl, RfTo.rest H.out HS.out⟩
      · have df : decide (s.room - (s.used : Int) < (n : Int)) = false := decide_eq_false hfull
        obtain ⟨gb, hgb⟩ : ∃ gb, gb = s.go := ⟨_, rfl⟩
        have HGB := hide hgb
        clear hgb
        cases gb with
        | false =>
          have e : fsAppend s k b = (0, s.went) := by simp [fsAppend, ← HHB.out, ← HN.out, h0, hfull, ← HGB.out]
          rw [e]
          clear e
          go_enter Tryz.func11, Tryz.ntmps11
          go_wp2_with fail
          refine HF.out.mono ?_
          rintro e w1 ⟨rfl, hb1⟩
          have HB1 := hide hb1
          clear hb1
          go_wp2_with fail
          refine wp_region_three 10 51 (by kernel_rfl) (by kernel_rfl) rfl (by kernel_rfl) (fun D v w' => Below w.heap.size w w') (fun _ => undef) HB1.out.drew ?_
          simp only [List.take_succ_cons, List.take_zero, List.drop_succ_cons, List.drop_zero]
          iterate 5 (refine Hav3.read (e := ?_) (fun v => by rfl) (fun D v w h => h) (fun D v w' hD hS => ?_) ?_; rotate_left; (skip; clear hS hD; first | (go_simp; done) | (go_simp; with_reducible rfl)); go_simp)
          iterate 1 (refine Hav3.read (e := ?_) (fun v => by rfl) (fun D v w h => h) (fun D v w' hD hS => ?_) ?_; rotate_left; (have c0 := hroom.out w' hS; clear hS hD; first | (go_simp; done) | (go_simp; with_reducible rfl)); go_simp)
          iterate 1 (refine Hav3.read (e := ?_) (fun v => by rfl) (fun D v w h => h) (fun D v w' hD hS => ?_) ?_; rotate_left; (skip; clear hS hD; first | (go_simp; done) | (go_simp; with_reducible rfl)); go_simp)
          refine Hav3.call (.int .i64 s.used) (fun v => by rfl) (fun D v w' hD hS => ?_) ?_
          · have HS := hide hS
            clear hS hD
            go_simp
            go_at_call 27
            refine (rf_Used rb s F w' (H.out.low HS.out) OK.out).mono ?_
            rintro e w'' ⟨rfl, hb⟩
            exact ⟨rfl, HS.out.trans (hb.mono HS.out.size)⟩
          iterate 2 (refine Hav3.read (e := ?_) (fun v => by rfl) (fun D v w h => h) (fun D v w' hD hS => ?_) ?_; rotate_left; (skip; clear hS hD; first | (go_simp; done) | (go_simp; with_reducible rfl)); go_simp)
          refine Hav3.fin (fun v w' hS => ?_)
          have HS := hide hS
          clear hS
          go_wp2_with (refine (rf_stopped rb s F _ (H.out.low HS.out) OK.out).mono ?_; rintro e w2 ⟨rfl, ht⟩; rw [← HGB.out]; have HT := hide ht; clear ht)
          go_ret
          exact ⟨rfl, RfTo.after HS.out HT.out⟩
        | true =>
          have e : fsAppend s k b = (0, { s.went with waits := s.went.waits ++ [(k, b)] }) := by simp [fsAppend, ← HHB.out, ← HN.out, h0, hfull, ← HGB.out, (went_parts s).2.2]
          rw [e]
          clear e
          obtain ⟨iP, hiP, hyP0, hyP1, hyP2⟩ := info_parts piece_info
          go_enter Tryz.func11, Tryz.ntmps11
          go_wp2_with fail
          refine HF.out.mono ?_
          rintro e w1 ⟨rfl, hb1⟩
          have HB1 := hide hb1
          clear hb1
          go_wp2_with fail
          refine wp_region_three 10 51 (by kernel_rfl) (by kernel_rfl) rfl (by kernel_rfl) (fun D v w' => Below w.heap.size w w') (fun _ => undef) HB1.out.drew ?_
          simp only [List.take_succ_cons, List.take_zero, List.drop_succ_cons, List.drop_zero]
          iterate 5 (refine Hav3.read (e := ?_) (fun v => by rfl) (fun D v w h => h) (fun D v w' hD hS => ?_) ?_; rotate_left; (skip; clear hS hD; first | (go_simp; done) | (go_simp; with_reducible rfl)); go_simp)
          iterate 1 (refine Hav3.read (e := ?_) (fun v => by rfl) (fun D v w h => h) (fun D v w' hD hS => ?_) ?_; rotate_left; (have c0 := hroom.out w' hS; clear hS hD; first | (go_simp; done) | (go_simp; with_reducible rfl)); go_simp)
          iterate 1 (refine Hav3.read (e := ?_) (fun v => by rfl) (fun D v w h => h) (fun D v w' hD hS => ?_) ?_; rotate_left; (skip; clear hS hD; first | (go_simp; done) | (go_simp; with_reducible rfl)); go_simp)
          refine Hav3.call (.int .i64 s.used) (fun v => by rfl) (fun D v w' hD hS => ?_) ?_
          · have HS := hide hS
            clear hS hD
            go_simp
            go_at_call 27
            refine (rf_Used rb s F w' (H.out.low HS.out) OK.out).mono ?_
            rintro e w'' ⟨rfl, hb⟩
            exact ⟨rfl, HS.out.trans (hb.mono HS.out.size)⟩
          iterate 2 (refine Hav3.read (e := ?_) (fun v => by rfl) (fun D v w h => h) (fun D v w' hD hS => ?_) ?_; rotate_left; (skip; clear hS hD; first | (go_simp; done) | (go_simp; with_reducible rfl)); go_simp)
          refine Hav3.fin (fun v w' hS => ?_)
          have HS := hide hS
          clear hS
          go_wp2_with fail
          refine (rf_stopped rb s F _ (H.out.low HS.out) OK.out).mono ?_
          rintro e w2 ⟨rfl, ht⟩
          rw [← HGB.out]
          obtain ⟨F2, hf2, hc2⟩ := ht
          have HC2 := hide hc2
          have HXB : Hid (RdB w2 (.slice a n c) b) := hide ((HX.out.low HS.out).chg hc2 (hfar (by omega)))
          obtain ⟨fa, fc, pa, pc, lv, E, L, h2, rfl⟩ := hf2
          have HIN := hide h2
          have hO0 : Hid (RowIs w2 w2.heap.size (.slice none 0 0) [] w2) := hide ⟨World.ownsRow_nil _ _ _ _, Below.refl _ _, Nat.le_refl _⟩
          clear hc2 h2
          go_upto_region 12 with (at_builtin; refine wpList_copy_own rfl _ _ 22 rfl w2 w2.heap.size 5 Tryz.underlying22 (by kernel_rfl) _ ([] : Bs) rfl (by exact hO0.out) _ b rfl (by exact HXB.out) (by have := HN.out; simp; omega) ?_; intro a1 co1 w1 hown1 hb1; obtain ⟨n1, hn1⟩ : ∃ n, n = (([] : Bs) ++ b).length := ⟨_, rfl⟩; rw [← hn1] at hown1 ⊢; have N1 := hide hn1; have HO1 := hide hown1; have HB1 := hide hb1; skip; clear hn1 hown1 hb1)
          have hE1 : Hid (EX w1 ⟨b, a1, n1, co1⟩ ∧ ∀ j, (Value.slice a1 n1 co1).ownBlock = some j → w2.heap.size ≤ j) := hide (by
            have h1 := HO1.out.1
            have h2 := N1.out
            rw [List.nil_append] at h1 h2
            rw [← h2] at h1
            exact ⟨⟨ownsRow_base h1 (Nat.zero_le _), h2⟩, fun j hj => (h1.lt j hj).1⟩)
          have HIN1 := hide (HIN.out.low HB1.out)
          obtain ⟨m, hm⟩ : ∃ m, m = L.length := ⟨_, rfl⟩
          have hm9 : m ≤ 1048576 := by rw [hm]; exact (HIN.out.short OK.out.went).2.1
          have c2 := (rf_cells HIN1.out.blk).2.2.1
          rw [← hm] at c2
          have HM := hide hm
          have hrow0 : Hid (∀ o, (w1.alloc o).ownsRow 0 73 2 (.slice pa m pc) m (eflat L)) := hide fun o => by
            rw [hm]
            exact ownsRow_below HIN1.out.prow (below_alloc w1 o) (Nat.le_refl _)
          have HBA := hide (below_alloc w1 (.cells #[.string ⟨k.toArray⟩, .slice a1 n1 co1] 73))
          have hrb1 := (rf_cells HIN1.out.blk).2.2.2.2.2.2.2
          clear hm hO0
          go_wp2_with (at_builtin; refine wpList_append_rd rfl (.tmp 43) (.tmp 47) 61 rfl 0 73 iP (.agg #[.string ⟨#[]⟩, .slice none 0 0]) 2 40 Tryz.underlying61 hiP hyP0 hyP1 hyP2 rfl (by decide) (.slice pa m pc) m _ rfl (hrow0.out _) (.slice (some ⟨w1.heap.size, 0, none⟩) 1 1) 1 [.string ⟨k.toArray⟩, .slice a1 n1 co1] rfl (rd_newE w1 #[.string ⟨k.toArray⟩, .slice a1 n1 co1] 73 w1.heap.size 1 2 rfl (by decide) rfl) (by simp [Value.oneCell']) (by unfold maxLen; omega) (by omega) (Nat.zero_le _) ?_; intro v3 w3 hown hgr hnil hv; obtain ⟨oa3, oc3, rfl⟩ := slice_of_row hown; have HOWN := hide hown; have HGR := hide hgr; have HV := hide hv; have hkeep : w3.heap[rb]? = (w1.alloc (.cells #[.string ⟨k.toArray⟩, .slice a1 n1 co1] 73)).heap[rb]? := hgr.block rb (by simp; omega) (fun e => (HIN1.out.low HBA.out).ne.2.1 (by rw [← HM.out]; exact e.symm)); have HBLK := hide (hkeep.trans (HIN1.out.low HBA.out).blk); have c2 := (rf_cells HBLK.out).2.2.1; have g2 := (rf_cells HBLK.out).2.2.2.2.2.2.1 2; clear hown hgr hnil hv hkeep)
          go_ret
          have HI2 := HIN1.out.low HBA.out
          have hm := HM.out
          subst hm
          obtain ⟨q1, q2⟩ := HI2.addP (s' := { s.went with waits := s.went.waits ++ [(k, b)] }) (e := ⟨b, a1, n1, co1⟩) (hE1.out.1.same fun j hj => HBA.out.block j (hE1.out.1.lt hj)) (fun j hj hm => by have h3 := hE1.out.2 j hj; obtain ⟨p, hp, hk⟩ := mem_ebs.1 hm; have := (HIN.out.ent p hp).lt hk; omega) HOWN.out HGR.out HV.out rfl rfl rfl rfl rfl
          have hlow2 := HB1.out.trans (HBA.out.mono HB1.out.size)
          have hfr : ∀ j ∈ ebs (E ++ (L ++ [(k, (⟨b, a1, n1, co1⟩ : Ent))])), j ∈ ebs (E ++ L) ∨ w2.heap.size ≤ j := fun j hj => by
            rw [← List.append_assoc, ebs_append] at hj
            rcases List.mem_append.1 hj with hj | hj
            · exact .inl hj
            · obtain ⟨p, hp, hk⟩ := mem_ebs.1 hj
              rw [List.mem_singleton] at hp
              subst hp
              exact .inr (hE1.out.2 j hk)
          obtain ⟨F3, r1, r2⟩ := q1.to ((chg_of_below hlow2).trans q2) hfr
          exact ⟨rfl, RfTo.after HS.out ⟨F3, r1, HC2.out.trans r2⟩⟩
end Go.Proofs.YtglgjakjhkdoaaaGreatDoor
