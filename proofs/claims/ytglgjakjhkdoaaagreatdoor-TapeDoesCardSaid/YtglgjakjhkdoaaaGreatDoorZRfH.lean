/-
  The document's file system: Sync, Cut.  (Printed by gen_rf.py.)
-/
import Derived.Test.YtglgjakjhkdoaaaGreatDoorZRfG
namespace Go.Proofs.YtglgjakjhkdoaaaGreatDoor
open Go.RowKit Go.Maps
set_option linter.unusedVariables false
set_option linter.unusedSimpArgs false

theorem eflat_setB : ∀ (l : List (Bs × Ent)) {i : Nat} {k : Bs} {e0 : Ent}, l[i]? = some (k, e0) → ∀ e : Ent, (eflat l).set (i * 2 + 1) e.v = eflat (l.set i (k, e))
  | q :: l, 0, k, e0, h, e => by
    simp only [List.getElem?_cons_zero, Option.some.injEq] at h
    subst h
    rfl
  | q :: l, i + 1, k, e0, h, e => by
    have ih := eflat_setB l (i := i) (k := k) (e0 := e0) (by simpa using h) e
    rw [show (i + 1) * 2 + 1 = (i * 2 + 1) + 2 by omega]
    show (encStr q.1 :: q.2.v :: eflat l).set (i * 2 + 1 + 2) e.v = encStr q.1 :: q.2.v :: eflat (l.set i (k, e))
    rw [← ih]
    rfl
theorem nodup_put {E L : List (Bs × Ent)} {k : Bs} {e : Ent} (h : (ebs (E ++ L)).Nodup) (hex : ∀ b, e.v.ownBlock = some b → b ∉ ebs (E ++ L)) : (ebs (mput strL k e E ++ L)).Nodup := by
  have hp : (mput strL k e E).Perm ((k, e) :: mdel k E) := mins_perm strL (k, e) (mdel k E)
  refine (ebs_perm (hp.append_right L)).nodup_iff.2 ?_
  show (e.v.ownBlock.toList ++ ebs (mdel k E ++ L)).Nodup
  have hs := ebs_sub ((mdel_sub k E).append (List.Sublist.refl L))
  refine List.nodup_append.2 ⟨?_, hs.nodup h, fun a ha b hb => ?_⟩
  · cases e.v.ownBlock <;> simp
  · rintro rfl
    exact hex a (by simpa using ha) (hs.subset hb)
theorem RfIn.setB {w : World} {rb g i : Nat} {s s' : FsS} {pa : Option Addr} {fc pc : Nat} {lv : Int} {E L : List (Bs × Ent)} {k : Bs} {e0 e : Ent} (h : RfIn w rb s (some ⟨g, 0, none⟩) fc pa pc lv E L) (hi : i = posF k E) (hg : mget k E = some e0) (hx : EX w e) (hex : ∀ b, e.v.ownBlock = some b → b ∉ ebs (E ++ L))
    (hr : s'.room = s.room) (hl : s'.left = s.left) (hh : s'.halted = s.halted) (hw : s'.waits = s.waits) (hf : s'.files = mput strL k e.b s.files) :
    RfIn (w.setCell ⟨g, i * 2 + 1, none⟩ e.v) rb s' (some ⟨g, 0, none⟩) fc pa pc lv (mput strL k e E) L ∧ Chg (G0 rb (some ⟨g, 0, none⟩) pa) (G0 rb (some ⟨g, 0, none⟩) pa) w (w.setCell ⟨g, i * 2 + 1, none⟩ e.v) := by
  have hp := (posF_has h.rise e0).1 hg
  rw [← hi] at hp
  have hset := mput_set (v := e) h.rise hg
  rw [← hi] at hset
  have hlen : (mput strL k e E).length = E.length := by rw [hset, List.length_set]
  obtain ⟨n1, n2, n3⟩ := h.ne
  have hgr : g ≠ rb := fun e => n1 (by rw [← e]; rfl)
  have hold : ∀ b, b ≠ g → (w.setCell ⟨g, i * 2 + 1, none⟩ e.v).heap[b]? = w.heap[b]? := fun b hb => heap_set_ne hb
  refine ⟨⟨?_, ?_, ?_, fun p hp' => ?_, nodup_put h.ex hex, fun n hn => h.left n (hl ▸ hn), ?_, hw.trans h.waits, h.rise.put k e⟩, ⟨rfl, rfl, rfl, by simp [World.setCell], fun b hb hn => hold b fun e => hn (by rw [mem_G0]; exact .inr (.inl (by rw [e]; rfl))), fun b hb => .inl hb⟩⟩
  · rw [hold rb (Ne.symm hgr), hr, hl, hh, hlen]
    exact h.blk
  · rw [hlen, hset, ← eflat_setB E hp e]
    exact (h.frow.stored (i * 2 + 1) e.v).1
  · exact ownsRow_same h.prow fun b hb => hold b fun e => by
      subst e
      exact ownsRow_ty h.frow h.prow (by decide) rfl hb
  · have hx' : EX w p.2 := by
      rcases List.mem_append.1 hp' with hp' | hp'
      · rcases (mput_mem _ _ _ _ _).1 hp' with rfl | ⟨h1, _⟩
        · exact hx
        · exact h.ent p (List.mem_append_left _ h1)
      · exact h.ent p (List.mem_append_right _ hp')
    exact hx'.same fun b hb => hold b fun e => by
      subst e
      exact ownsRow_ty h.frow hx'.own (by decide) rfl hb
  · rw [hf, h.files]
    exact (mput_ct strL Ent.b k e E).symm
theorem went_get (s : FsS) (k : Bs) : s.went.get k = s.get k := by
  unfold FsS.get
  rw [(went_parts s).2.1, (went_parts s).2.2]

set_option maxRecDepth 100000 in
set_option maxHeartbeats 3200000 in
theorem rf_Sync (rb : Nat) (s : FsS) (F : List Nat) (k : Bs) (hk : k.length ≤ maxLen) (w : World) (h : RfRep w rb s F) (ok : s.Ok) :
    Calls Tryz.prog 56 #[.pointer (some ⟨rb, 0, none⟩), .string ⟨k.toArray⟩] w fun e w' => e = .returned (.int .i64 (fsSync s k).1) ∧ RfTo w rb F (fsSync s k).2 w' := by
  have H := hide h
  have OK := hide ok
  have HF := hide (rf_find' rb s F k hk w h ok)
  obtain ⟨hb, hhb⟩ : ∃ hb, hb = s.has k := ⟨_, rfl⟩
  obtain ⟨j0, hj0⟩ : ∃ j0, j0 = posF k s.files := ⟨_, rfl⟩
  rw [← hhb, ← hj0] at HF
  have HJ0 := hide hj0
  have HHB := hide hhb
  clear h ok hhb hj0
  cases hb with
  | false =>
    have e : fsSync s k = (80, s) := by simp [fsSync, ← HHB.out]
    rw [e]
    clear e
    go_enter Tryz.func56, Tryz.ntmps56
    go_wp2_with (refine HF.out.mono ?_; rintro e w1 ⟨rfl, hb1⟩; have HB1 := hide hb1; clear hb1)
    go_ret
    exact ⟨rfl, RfTo.rest H.out HB1.out⟩
  | true =>
    obtain ⟨gb, hgb⟩ : ∃ gb, gb = s.go := ⟨_, rfl⟩
    have HGB := hide hgb
    clear hgb
    cases gb with
    | false =>
      have e : fsSync s k = (0, s.went) := by simp [fsSync, ← HHB.out, ← HGB.out]
      rw [e]
      clear e
      go_enter Tryz.func56, Tryz.ntmps56
      go_wp2_with (first | (refine HF.out.mono ?_; rintro e w1 ⟨rfl, hb1⟩; have HB1 := hide hb1; clear hb1) | (refine (rf_stopped rb s F _ (H.out.low HB1.out) OK.out).mono ?_; rintro e w2 ⟨rfl, ht⟩; rw [← HGB.out]; have HT := hide ht; clear ht))
      go_ret
      exact ⟨rfl, RfTo.after HB1.out HT.out⟩
    | true =>
      have e : fsSync s k = (0, { s.went with files := mput strL k (s.went.get k) s.went.files, waits := mdel k s.went.waits }) := by simp [fsSync, forgotten, mdel, ← HHB.out, ← HGB.out, (went_parts s).2.1, (went_parts s).2.2, went_get]
      rw [e]
      clear e
      obtain ⟨iP, hiP, hyP0, hyP1, hyP2⟩ := info_parts piece_info
      go_enter Tryz.func56, Tryz.ntmps56
      go_wp2_with fail
      refine HF.out.mono ?_
      rintro e w1 ⟨rfl, hb1⟩
      have HB1 := hide hb1
      clear hb1
      go_wp2_with fail
      refine (rf_stopped rb s F _ (H.out.low HB1.out) OK.out).mono ?_
      rintro e w2 ⟨rfl, ht⟩
      rw [← HGB.out]
      obtain ⟨F2, hf2, hc2⟩ := ht
      have HR2 := hide hf2
      have HC2 := hide hc2
      clear hf2 hc2
      go_wp2_with fail
      refine (rf_Read rb s.went F2 k hk w2 HR2.out OK.out.went).mono ?_
      rintro e w3 hr
      unfold RfTold at hr
      rw [went_has, ← HHB.out, if_pos rfl] at hr
      obtain ⟨ra, rn, rc, rfl, hfr⟩ := hr
      have HFR := hide hfr
      clear hfr
      go_upto_region 8 with fail
      obtain ⟨fa, fc, pa, pc, lv, E, L, h2, hF2⟩ := HR2.out
      have h3 := h2.low HFR.out.2.2
      have hj : j0 = posF k E := by rw [HJ0.out, ← (went_parts s).2.1, h2.files, posF_ct]
      obtain ⟨e0, hg0⟩ : ∃ e0, mget k E = some e0 := Option.isSome_iff_exists.1 (by rw [← h2.has k, went_has]; exact HHB.out.symm)
      have hp := (posF_has h2.rise e0).1 hg0
      rw [← hj] at hp
      obtain ⟨g, rfl, c0, c1, hgl, cf⟩ := erow_get h3.frow rfl hp
      obtain ⟨n, hn⟩ : ∃ n, n = E.length := ⟨_, rfl⟩
      obtain ⟨m, hm⟩ : ∃ m, m = L.length := ⟨_, rfl⟩
      have hjn : j0 < n := by rw [hn]; exact (List.getElem?_eq_some_iff.1 hp).1
      have f1 := (rf_cells h3.blk).2.1
      rw [← hn] at f1
      have hL : m ≤ 1048576 := by rw [hm]; exact (h2.short OK.out.went).2.1
      have HM := hide hm
      have cf1 := cf (j0 * 2 + 1)
      have hfr0 : ∀ b, (Value.slice ra rn rc).ownBlock = some b → b ∉ ebs (E ++ L) := fun b hb hm => by
        have h5 := (HFR.out.ge b hb).1
        obtain ⟨p, hp, hk⟩ := mem_ebs.1 hm
        have := (h2.ent p hp).lt hk
        omega
      obtain ⟨q1, q2⟩ := h3.setB (s' := { s.went with files := mput strL k (s.went.get k) s.went.files }) (e := ⟨s.went.get k, ra, rn, rc⟩) hj hg0 ⟨ownsRow_base HFR.out.1 (Nat.zero_le _), HFR.out.2.1⟩ hfr0 rfl rfl rfl rfl rfl
      have hsub : ∀ b ∈ ebs (mput strL k (⟨s.went.get k, ra, rn, rc⟩ : Ent) E ++ mdel k L), b ∈ ebs (E ++ L) ∨ w2.heap.size ≤ b := fun b hb => by
        obtain ⟨p, hp, hk⟩ := mem_ebs.1 hb
        rcases List.mem_append.1 hp with hp | hp
        · rcases (mput_mem _ _ _ _ _).1 hp with rfl | ⟨h5, _⟩
          · exact .inr (HFR.out.ge b hk).1
          · exact .inl (mem_ebs.2 ⟨p, List.mem_append_left _ h5, hk⟩)
        · exact .inl (mem_ebs.2 ⟨p, List.mem_append_right _ ((mdel_sub k L).subset hp), hk⟩)
      have HSUB := hide hsub
      have HC3 := hide ((chg_of_below (F := G0 rb (some ⟨g, 0, none⟩) pa) HFR.out.2.2).trans q2)
      obtain ⟨W1, hW1⟩ : ∃ W1, W1 = w3.setCell ⟨g, j0 * 2 + 1, none⟩ (.slice ra rn rc) := ⟨_, rfl⟩
      have HIN1 := hide (show RfIn W1 rb { s.went with files := mput strL k (s.went.get k) s.went.files } (some ⟨g, 0, none⟩) fc pa pc lv (mput strL k ⟨s.went.get k, ra, rn, rc⟩ E) L by rw [hW1]; exact q1)
      have hCW : Hid (Chg (G0 rb (some ⟨g, 0, none⟩) pa) (G0 rb (some ⟨g, 0, none⟩) pa) w2 W1) := hide (by rw [hW1]; exact HC3.out)
      have HF2 := hide hF2
      clear HC3 q1 q2 hsub hfr0 cf c0 hn hm hp hg0 hj h3 h2 hF2
      go_upto_region 9 with fail
      rw [← hW1]
      clear hW1 f1 c1 cf1
      obtain ⟨E1, hE1⟩ : ∃ E1, E1 = mput strL k (⟨s.went.get k, ra, rn, rc⟩ : Ent) E := ⟨_, rfl⟩
      rw [← hE1] at HIN1 HSUB
      clear hE1
      have hfin : Hid (∀ wr2 oa2 oc2 on2, ENew 73 W1 wr2 (.slice oa2 on2 oc2) on2 (mdel k L) → RfTo w rb F { s.went with files := mput strL k (s.went.get k) s.went.files, waits := mdel k s.went.waits } (wr2.setCell ⟨rb, 2, none⟩ (.slice oa2 on2 oc2))) := hide fun wr2 oa2 oc2 on2 hN => by
        obtain ⟨q1, q2⟩ := HIN1.out.setP (s' := { s.went with files := mput strL k (s.went.get k) s.went.files, waits := mdel k s.went.waits }) hN rfl rfl rfl (by show mdel k s.went.waits = _; rw [mdelE_ct, ← HIN1.out.waits]) rfl (fun p hp => HIN1.out.ent p (List.mem_append_right _ ((mdel_sub k L).subset hp))) ((ebs_sub ((List.Sublist.refl E1).append (mdel_sub k L))).nodup HIN1.out.ex)
        obtain ⟨F3, r1, r2⟩ := q1.to (hCW.out.trans q2) HSUB.out
        rw [← HF2.out] at r2
        exact RfTo.after HB1.out ⟨F3, r1, HC2.out.trans r2⟩
      go_wp2
      go_loopw [10, 11] (fun ov iv wr => ∃ (i : Nat) (oa : Option Addr) (on oc : Nat), ov = .slice oa on oc ∧ iv = .int .i64 i ∧ i ≤ m ∧ on ≤ i ∧ Hid (ENew 73 W1 wr (.slice oa on oc) on (mdel k (L.take i)))) (fun _ iv _ => match iv with | .int _ j => m - j.toNat | _ => 0)
      case atStart => exact ⟨0, none, 0, 0, rfl, rfl, Nat.zero_le _, Nat.le_refl _, hide (by have := ENew.nil 73 W1 W1 (Below.refl _ _); simpa [mdel] using this)⟩
      case round =>
        obtain ⟨i, oa, on, oc, rfl, rfl, hi, hon, hT⟩ := hrel
        have hlow := hide hT.out.low
        have h1 := hide (HIN1.out.low hlow.out)
        have f1 := (rf_cells h1.out.blk).2.2.1
        rw [← HM.out] at f1
        by_cases hil : i < m
        · obtain ⟨p, hp⟩ : ∃ p, L[i]? = some p := ⟨_, List.getElem?_eq_getElem (by have := HM.out; omega)⟩
          obtain ⟨g, rfl, c0, c1, hgl, cf⟩ := erow_get h1.out.prow rfl hp
          obtain ⟨pk, pb, xa, xn, xc⟩ := p
          have HTK := hide (takeE_step hp)
          have hd : decide ((i : Int) < m) = true := by simpa using hil
          have hwi : IntKind.i64.wrap ((i : Int) + 1) = (i : Int) + 1 := wrap64 (by omega) (by omega)
          simp only at c0 c1
          clear hp cf h1
          by_cases he : pk = k
          · have heb : (pk == k) = true := by simpa using he
            have hnb : (pk != k) = false := by simpa using he
            have hT2 : Hid (ENew 73 W1 wr (.slice oa on oc) on (mdel k (L.take (i + 1)))) := hide (by
              rw [HTK.out, mdelE_app]
              have e : mdel k [((pk, ⟨pb, xa, xn, xc⟩) : Bs × Ent)] = [] := by simp [mdel, he]
              rw [e, List.append_nil]
              exact hT.out)
            go_wp2
            refine ⟨⟨i + 1, oa, on, oc, rfl, by simp, hil, by omega, hT2⟩, ?_⟩
            show m - ((i : Int) + 1).toNat < m - ((i : Nat) : Int).toNat
            omega
          · have heb : (pk == k) = false := by simpa using he
            have hnb : (pk != k) = true := by simpa using he
            have hrow4 : Hid (∀ o, (wr.alloc o).ownsRow W1.heap.size 73 2 (.slice oa on oc) on (eflat (mdel k (L.take i)))) := hide fun o => hT.out.row.alloc o
            have hsz := hlow.out.size
            go_wp2_with (at_builtin; refine wpList_append_rd rfl (.tmp 56) (.tmp 64) 61 rfl W1.heap.size 73 iP (.agg #[.string ⟨#[]⟩, .slice none 0 0]) 2 40 Tryz.underlying61 hiP hyP0 hyP1 hyP2 rfl (by decide) (.slice oa on oc) on _ rfl (hrow4.out _) (.slice (some ⟨wr.heap.size, 0, none⟩) 1 1) 1 [.string ⟨pk.toArray⟩, .slice xa xn xc] rfl (rd_newE wr #[.string ⟨pk.toArray⟩, .slice xa xn xc] 73 wr.heap.size 1 2 rfl (by decide) rfl) (by simp [Value.oneCell']) (by unfold maxLen; omega) (by omega) (by simp; omega) ?_; intro v1 w3 hown hgr hnil hv; obtain ⟨oa1, oc1, rfl⟩ := slice_of_row hown; have HOWN := hide hown; have HGR := hide hgr; clear hown hgr hnil hv)
            have hT2 : ENew 73 W1 w3 (.slice oa1 (on + 1) oc1) (on + 1) (mdel k (L.take i) ++ [((pk, ⟨pb, xa, xn, xc⟩) : Bs × Ent)]) := hT.out.app (l' := [((pk, ⟨pb, xa, xn, xc⟩) : Bs × Ent)]) (below_alloc wr _) HOWN.out rfl HGR.out
            refine ⟨⟨i + 1, oa1, on + 1, oc1, by simp, by simp, hil, by omega, hide ?_⟩, ?_⟩
            · rw [HTK.out, mdelE_app]
              have e : mdel k [((pk, ⟨pb, xa, xn, xc⟩) : Bs × Ent)] = [((pk, ⟨pb, xa, xn, xc⟩) : Bs × Ent)] := by simp [mdel, he]
              rw [e]
              exact hT2
            · show m - ((i : Int) + 1).toNat < m - ((i : Nat) : Int).toNat
              omega
        · have hin := hide (show i = m by omega)
          have hd : decide ((i : Int) < m) = false := decide_eq_false (by omega)
          have hT2 : Hid (ENew 73 W1 wr (.slice oa on oc) on (mdel k L)) := hide (by
            have := hT.out
            rw [hin.out, HM.out, List.take_length] at this
            exact this)
          have c2 := (rf_cells h1.out.blk).2.2.2.2.2.2.1 2
          clear hT h1
          go_wp2
          go_ret
          exact ⟨rfl, hfin.out _ _ _ _ hT2.out⟩
end Go.Proofs.YtglgjakjhkdoaaaGreatDoor
