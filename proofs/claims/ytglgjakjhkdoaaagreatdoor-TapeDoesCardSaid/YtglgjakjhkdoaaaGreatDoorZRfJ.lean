/-
  The document's file system: Rename.
-/
import Derived.Test.YtglgjakjhkdoaaaGreatDoorZRfI
namespace Go.Proofs.YtglgjakjhkdoaaaGreatDoor
open Go.RowKit Go.Maps
set_option linter.unusedVariables false
set_option linter.unusedSimpArgs false

theorem rename_files {F : List (Bs × Bs)} (h : Rises F) {a b : Bs} (hab : a ≠ b) (v : Bs) : mdel a (mput strL b v F) = mput strL b v (mdel a (mdel b F)) := by
  refine rises_ext ((h.put b v).del a) (((h.del b).del a).put b v) fun p => ?_
  rw [mdel_mem, mput_mem, mput_mem, mdel_mem, mdel_mem]
  constructor
  · rintro ⟨rfl | ⟨h1, h2⟩, h3⟩
    · exact .inl rfl
    · exact .inr ⟨⟨⟨h1, h2⟩, h3⟩, h2⟩
  · rintro (rfl | ⟨⟨⟨h1, h2⟩, h3⟩, _⟩)
    · exact ⟨.inl rfl, Ne.symm hab⟩
    · exact ⟨.inr ⟨h1, h2⟩, h3⟩
theorem ebs_swap (a b : Bs) (L : List (Bs × Ent)) : ebs (L.map (swapN a b)) = ebs L := by
  unfold ebs
  rw [List.flatMap_map]
  congr 1
  funext p
  unfold swapN
  split <;> rfl
theorem nodup_rename {E L : List (Bs × Ent)} {a b : Bs} {e0 : Ent} (hr : Rises E) (h : (ebs (E ++ L)).Nodup) (hg : mget a E = some e0) : (ebs ((b, e0) :: mdel a (mdel b E) ++ (mdel b L).map (swapN a b))).Nodup := by
  have h1 : (ebs ((a, e0) :: (mdel a E ++ L))).Nodup := by
    refine (ebs_perm (?_ : ((a, e0) :: (mdel a E ++ L)).Perm (E ++ L))).nodup_iff.2 h
    exact (mdel_perm (ok := fun _ => True) (p := (a, e0)) ⟨hr.ne, fun _ _ => trivial⟩ (mget_mem hg)).append_right L
  have e1 : ebs ((b, e0) :: mdel a (mdel b E) ++ (mdel b L).map (swapN a b)) = ebs ((a, e0) :: (mdel a (mdel b E) ++ mdel b L)) := by
    show e0.v.ownBlock.toList ++ ebs (mdel a (mdel b E) ++ (mdel b L).map (swapN a b)) = e0.v.ownBlock.toList ++ ebs (mdel a (mdel b E) ++ mdel b L)
    rw [ebs_append, ebs_append, ebs_swap]
  rw [e1]
  refine (ebs_sub (List.Sublist.cons_cons _ ?_)).nodup h1
  refine List.Sublist.append ?_ (mdel_sub b L)
  exact List.Sublist.filter _ (mdel_sub b E)
theorem RfIn.setP2 {w : World} {rb : Nat} {s s' : FsS} {fa pa oa : Option Addr} {fc pc oc on : Nat} {lv : Int} {E L L' : List (Bs × Ent)} (h : RfIn w rb s fa fc pa pc lv E L) (hrow : w.ownsRow 0 73 2 (.slice oa on oc) on (eflat L')) (hlen : on = L'.length)
    (hr : s'.room = s.room) (hl : s'.left = s.left) (hh : s'.halted = s.halted) (hw : s'.waits = L'.map ct) (hf : s'.files = s.files) (hx : ∀ p ∈ L', EX w p.2) (hnd : (ebs (E ++ L')).Nodup) :
    RfIn (w.setCell ⟨rb, 2, none⟩ (.slice oa on oc)) rb s' fa fc oa oc lv E L' ∧ Chg (G0 rb fa pa ++ (Value.slice oa 0 0).ownBlock.toList) (G0 rb fa oa) w (w.setCell ⟨rb, 2, none⟩ (.slice oa on oc)) := by
  subst hlen
  have hrb := (rf_cells h.blk).2.2.2.2.2.2.2
  obtain ⟨n1, n2, n3⟩ := h.ne
  have hold : ∀ b, b ≠ rb → (w.setCell ⟨rb, 2, none⟩ (.slice oa L'.length oc)).heap[b]? = w.heap[b]? := fun b hb => heap_set_ne hb
  refine ⟨⟨?_, ?_, ?_, fun p hp => ?_, hnd, fun n hn => h.left n (hl ▸ hn), hf.trans h.files, hw, h.rise⟩, ⟨rfl, rfl, rfl, by simp [World.setCell], fun b hb hn => hold b fun e => hn (List.mem_append_left _ (by rw [mem_G0]; exact .inl e)), fun b hb => ?_⟩⟩
  · rw [hr, hl, hh]
    have := setCell_heap h.blk 2 (.slice oa L'.length oc)
    simpa using this
  · exact ownsRow_same h.frow fun b hb => hold b fun e => n1 (e ▸ hb)
  · exact ownsRow_same hrow fun b hb => hold b fun e => ownsRow_off hrow h.blk (by decide) (e ▸ hb)
  · have hx' : EX w p.2 := by
      rcases List.mem_append.1 hp with hp | hp
      · exact h.ent p (List.mem_append_left _ hp)
      · exact hx p hp
    exact hx'.same fun b hb => hold b fun e => ownsRow_off hx'.own h.blk (by decide) (e ▸ hb)
  · rw [mem_G0] at hb
    rcases hb with hb | hb | hb
    · exact .inl (List.mem_append_left _ (by rw [mem_G0]; exact .inl hb))
    · exact .inl (List.mem_append_left _ (by rw [mem_G0]; exact .inr (.inl hb)))
    · exact .inl (List.mem_append_right _ (by simpa using hb))
theorem RfIn.exKeep {w w' : World} {rb : Nat} {s : FsS} {fa pa : Option Addr} {fc pc : Nat} {lv : Int} {E L : List (Bs × Ent)} {G' : List Nat} {e : Ent} (h : RfIn w rb s fa fc pa pc lv E L) (hc : Chg (G0 rb fa pa) G' w w') (hx : EX w e) : EX w' e :=
  hx.same fun b hb => hc.block b (hx.lt hb) fun hm => by
    rw [mem_G0, ownBlock_sl fa 0 0 E.length fc, ownBlock_sl pa 0 0 L.length pc] at hm
    rcases hm with rfl | hm | hm
    · exact ownsRow_off hx.own h.blk (by decide) hb
    · exact ownsRow_ty hx.own h.frow (by decide) hb hm
    · exact ownsRow_ty hx.own h.prow (by decide) hb hm
theorem mget_mdel (k : Bs) (E : List (Bs × Ent)) : mget k (mdel k E) = none := mget_del_same k E

set_option maxRecDepth 100000 in
set_option maxHeartbeats 3200000 in
theorem rf_Rename (rb : Nat) (s : FsS) (F : List Nat) (a b : Bs) (ha : a.length ≤ maxLen) (hb : b.length ≤ maxLen) (w : World) (h : RfRep w rb s F) (ok : s.Ok) :
    Calls Tryz.prog 72 #[.pointer (some ⟨rb, 0, none⟩), .string ⟨a.toArray⟩, .string ⟨b.toArray⟩] w fun e w' => e = .returned (.int .i64 (fsRename s a b).1) ∧ RfTo w rb F (fsRename s a b).2 w' := by
  have H := hide h
  have OK := hide ok
  have HF := hide (rf_find' rb s F a ha w h ok)
  obtain ⟨hb', hhb⟩ : ∃ hb', hb' = s.has a := ⟨_, rfl⟩
  obtain ⟨nb, hnb⟩ : ∃ nb, nb = named b := ⟨_, rfl⟩
  obtain ⟨j0, hj0⟩ : ∃ j0, j0 = posF a s.files := ⟨_, rfl⟩
  rw [← hhb, ← hj0] at HF
  have HJ0 := hide hj0
  have HHB := hide hhb
  have HNB := hide hnb
  clear h ok hhb hj0 hnb
  cases hb' with
  | false =>
    have e : fsRename s a b = (80, s) := by simp [fsRename, ← HHB.out]
    rw [e]
    clear e
    go_enter Tryz.func72, Tryz.ntmps72
    go_wp2_with (refine HF.out.mono ?_; rintro e w1 ⟨rfl, hb1⟩; have HB1 := hide hb1; clear hb1)
    go_ret
    exact ⟨rfl, RfTo.rest H.out HB1.out⟩
  | true =>
    cases nb with
    | false =>
      have e : fsRename s a b = (1, s) := by simp [fsRename, ← HHB.out, ← HNB.out]
      rw [e]
      clear e
      go_enter Tryz.func72, Tryz.ntmps72
      go_wp2_with fail
      refine HF.out.mono ?_
      rintro e w1 ⟨rfl, hb1⟩
      have HB1 := hide hb1
      clear hb1
      go_wp2_with fail
      refine (rf_named b hb _).mono ?_
      rintro e w' ⟨rfl, rfl⟩
      rw [← HNB.out]
      go_wp2
      go_ret
      exact ⟨rfl, RfTo.rest H.out HB1.out⟩
    | true =>
      by_cases hab : a = b
      · have e : fsRename s a b = (0, s) := by simp [fsRename, ← HHB.out, ← HNB.out, hab]; subst hab; simp [← HHB.out, ← HNB.out]
        rw [e]
        have d0 : (a == b) = true := by simpa using hab
        clear e hab
        go_enter Tryz.func72, Tryz.ntmps72
        go_wp2_with fail
        refine HF.out.mono ?_
        rintro e w1 ⟨rfl, hb1⟩
        have HB1 := hide hb1
        clear hb1
        go_wp2_with fail
        refine (rf_named b hb _).mono ?_
        rintro e w' ⟨rfl, rfl⟩
        rw [← HNB.out]
        go_wp2
        go_ret
        exact ⟨rfl, RfTo.rest H.out HB1.out⟩
      · have d0 : (a == b) = false := by simpa using hab
        obtain ⟨gb, hgb⟩ : ∃ gb, gb = s.go := ⟨_, rfl⟩
        have HGB := hide hgb
        clear hgb
        cases gb with
        | false =>
          have e : fsRename s a b = (0, s.went) := by simp [fsRename, ← HHB.out, ← HNB.out, hab, ← HGB.out]
          rw [e]
          clear e
          go_enter Tryz.func72, Tryz.ntmps72
          go_wp2_with fail
          refine HF.out.mono ?_
          rintro e w1 ⟨rfl, hb1⟩
          have HB1 := hide hb1
          clear hb1
          go_wp2_with fail
          refine (rf_named b hb _).mono ?_
          rintro e w' ⟨rfl, rfl⟩
          rw [← HNB.out]
          go_wp2_with fail
          refine (rf_stopped rb s F _ (H.out.low HB1.out) OK.out).mono ?_
          rintro e w2 ⟨rfl, ht⟩
          rw [← HGB.out]
          have HT := hide ht
          clear ht
          go_wp2
          go_ret
          exact ⟨rfl, RfTo.after HB1.out HT.out⟩
        | true =>
          have HE : Hid (fsRename s a b = (0, { s.went with files := mput strL b ((mget a s.went.files).getD []) (mdel a (mdel b s.went.files)), waits := (mdel b s.went.waits).map fun p => if p.1 = a then (b, p.2) else p })) := hide (by
            have hr : Rises s.files := by
              obtain ⟨fa, fc, pa, pc, lv, E, L, h, rfl⟩ := H.out
              rw [h.files]
              unfold Rises
              rw [List.pairwise_map]
              exact h.rise
            unfold fsRename
            rw [← HHB.out, ← HNB.out, if_neg (by simp), if_neg (by simp), if_neg hab, ← HGB.out, if_pos rfl, (went_parts s).2.1, (went_parts s).2.2, rename_files hr hab]
            rfl)
          rw [HE.out]
          clear HE
          obtain ⟨iP, hiP, hyP0, hyP1, hyP2⟩ := info_parts piece_info
          go_enter Tryz.func72, Tryz.ntmps72
          go_wp2_with fail
          refine HF.out.mono ?_
          rintro e w1 ⟨rfl, hb1⟩
          have HB1 := hide hb1
          clear hb1
          go_wp2_with fail
          refine (rf_named b hb _).mono ?_
          rintro e w' ⟨rfl, rfl⟩
          rw [← HNB.out]
          go_wp2_with fail
          refine (rf_stopped rb s F _ (H.out.low HB1.out) OK.out).mono ?_
          rintro e w2 ⟨rfl, ht⟩
          rw [← HGB.out]
          obtain ⟨F2, hf2, hc2⟩ := ht
          have HR2 := hide hf2
          have HC2 := hide hc2
          clear hf2 hc2
          obtain ⟨fa, fc, pa, pc, lv, E, L, h2, hF2⟩ := HR2.out
          have hj : j0 = posF a E := by rw [HJ0.out, ← (went_parts s).2.1, h2.files, posF_ct]
          obtain ⟨e0, hg0⟩ : ∃ e0, mget a E = some e0 := Option.isSome_iff_exists.1 (by rw [← h2.has a, went_has]; exact HHB.out.symm)
          have hp := (posF_has h2.rise e0).1 hg0
          rw [← hj] at hp
          obtain ⟨g, rfl, c0, c1, hgl, cf⟩ := erow_get h2.frow rfl hp
          obtain ⟨n, hn⟩ : ∃ n, n = E.length := ⟨_, rfl⟩
          obtain ⟨m, hm⟩ : ∃ m, m = L.length := ⟨_, rfl⟩
          have hjn : j0 < n := by rw [hn]; exact (List.getElem?_eq_some_iff.1 hp).1
          have f1 := (rf_cells h2.blk).2.1
          rw [← hn] at f1
          have hL : m ≤ 1048576 := by rw [hm]; exact (h2.short OK.out.went).2.1
          have HM := hide hm
          have HF2 := hide hF2
          have HG0 := hide hg0
          have HIN := hide h2
          obtain ⟨eb, ea, en, ec⟩ := e0
          simp only at c1
          clear cf c0 hn hm hp hg0 hj h2 hF2
          go_upto_region 15 with fail
          clear f1 c1 hgl
          go_loopw [12, 13] (fun ov iv wr => ∃ (i : Nat) (oa : Option Addr) (on oc : Nat), ov = .slice oa on oc ∧ iv = .int .i64 i ∧ i ≤ m ∧ on ≤ i ∧ Hid (ENew 73 w2 wr (.slice oa on oc) on ((mdel b (L.take i)).map (swapN a b)))) (fun _ iv _ => match iv with | .int _ j => m - j.toNat | _ => 0)
          case atStart => exact ⟨0, none, 0, 0, rfl, rfl, Nat.zero_le _, Nat.le_refl _, hide (by have := ENew.nil 73 w2 w2 (Below.refl _ _); simpa [mdel] using this)⟩
          case round =>
            obtain ⟨i, oa, on, oc, rfl, rfl, hi, hon, hT⟩ := hrel
            have hlow := hide hT.out.low
            have h1 := hide (HIN.out.low hlow.out)
            have f1 := (rf_cells h1.out.blk).2.2.1
            rw [← HM.out] at f1
            by_cases hil : i < m
            · obtain ⟨p, hp⟩ : ∃ p, L[i]? = some p := ⟨_, List.getElem?_eq_getElem (by have := HM.out; omega)⟩
              obtain ⟨g2, rfl, c0, c1, hgl, cf⟩ := erow_get h1.out.prow rfl hp
              obtain ⟨pk, pb, xa, xn, xc⟩ := p
              have HTK := hide (takeE_step hp)
              have hd : decide ((i : Int) < m) = true := by simpa using hil
              have hwi : IntKind.i64.wrap ((i : Int) + 1) = (i : Int) + 1 := wrap64 (by omega) (by omega)
              simp only at c0 c1
              clear hp cf h1
              go_upto_region 18 with fail
              have HBA := hide (below_alloc wr (.cells #[.string ⟨pk.toArray⟩, .slice xa xn xc] 73))
              obtain ⟨W3, hW3⟩ : ∃ W3, W3 = wr.alloc (.cells #[.string ⟨pk.toArray⟩, .slice xa xn xc] 73) := ⟨_, rfl⟩
              have hat : W3.heap[wr.heap.size]? = some (.cells #[.string ⟨pk.toArray⟩, .slice xa xn xc] 73 (0, 0)) := by rw [hW3]; exact heap_alloc_at _ _
              have k0 : W3.cell? ⟨wr.heap.size, 0, none⟩ = some (.string ⟨pk.toArray⟩) ∧ W3.cell? ⟨wr.heap.size, 1, none⟩ = some (.slice xa xn xc) ∧ W3.frozen? ⟨wr.heap.size, 0, none⟩ = false := by simp [World.cell?, World.frozen?, hat]
              obtain ⟨k0, k1, k2⟩ := k0
              rw [← hW3] at HBA ⊢
              have HAT := hide hat
              clear hW3 hat c0 c1 f1
              by_cases hpb : pk = b
              · have e1 : (pk == b) = true := by simpa using hpb
                have hT2 : Hid (ENew 73 w2 W3 (.slice oa on oc) on ((mdel b (L.take (i + 1))).map (swapN a b))) := hide (by
                  rw [HTK.out, mdelE_app]
                  have e : mdel b [((pk, ⟨pb, xa, xn, xc⟩) : Bs × Ent)] = [] := by simp [mdel, hpb]
                  rw [e, List.append_nil]
                  exact hT.out.then HBA.out)
                clear hpb
                go_wp2
                refine ⟨⟨i + 1, oa, on, oc, rfl, by simp, hil, by omega, hT2⟩, ?_⟩
                show m - ((i : Int) + 1).toNat < m - ((i : Nat) : Int).toNat
                omega
              · have e1 : (pk == b) = false := by simpa using hpb
                have HPB := hide hpb
                clear hpb
                have hT3 := hide (hT.out.then HBA.out)
                by_cases hpa : pk = a
                · have e2 : (pk == a) = true := by simpa using hpa
                  have HPA := hide hpa
                  clear hpa
                  go_upto_region 21 with fail
                  obtain ⟨W4, hW4⟩ : ∃ W4, W4 = W3.setCell ⟨wr.heap.size, 0, none⟩ (.string ⟨b.toArray⟩) := ⟨_, rfl⟩
                  have q0 : W4.heap[wr.heap.size]? = some (.cells #[.string ⟨b.toArray⟩, .slice xa xn xc] 73 (0, 0)) := by
                    rw [hW4]
                    have := setCell_heap HAT.out 0 (.string ⟨b.toArray⟩)
                    simpa using this
                  have k0 : W4.cell? ⟨wr.heap.size, 0, none⟩ = some (.string ⟨b.toArray⟩) ∧ W4.cell? ⟨wr.heap.size, 1, none⟩ = some (.slice xa xn xc) := by simp [World.cell?, q0]
                  have hT4 : Hid (ENew 73 w2 W4 (.slice oa on oc) on ((mdel b (L.take i)).map (swapN a b))) := hide (by
                    have hb4 : Below wr.heap.size wr W4 := by
                      rw [hW4]
                      exact HBA.out.trans ⟨rfl, rfl, rfl, by simp [World.setCell], fun k hk => heap_set_ne (by omega)⟩
                    exact hT.out.then hb4)
                  obtain ⟨k0, k1⟩ := k0
                  rw [← hW4]
                  clear hW4 q0
                  have hrow4 : Hid (∀ o, (W4.alloc o).ownsRow w2.heap.size 73 2 (.slice oa on oc) on (eflat ((mdel b (L.take i)).map (swapN a b)))) := hide fun o => hT4.out.row.alloc o
                  have hsz := hT4.out.low.size
                  go_wp2_with (at_builtin; refine wpList_append_rd rfl (.tmp 67) (.tmp 69) 61 rfl w2.heap.size 73 iP (.agg #[.string ⟨#[]⟩, .slice none 0 0]) 2 40 Tryz.underlying61 hiP hyP0 hyP1 hyP2 rfl (by decide) (.slice oa on oc) on _ rfl (hrow4.out _) (.slice (some ⟨W4.heap.size, 0, none⟩) 1 1) 1 [.string ⟨b.toArray⟩, .slice xa xn xc] rfl (rd_newE W4 #[.string ⟨b.toArray⟩, .slice xa xn xc] 73 W4.heap.size 1 2 rfl (by decide) rfl) (by simp [Value.oneCell']) (by unfold maxLen; omega) (by omega) (by simp; omega) ?_; intro v1 w3 hown hgr hnil hv; obtain ⟨oa1, oc1, rfl⟩ := slice_of_row hown; have HOWN := hide hown; have HGR := hide hgr; clear hown hgr hnil hv)
                  have hT2 : ENew 73 w2 w3 (.slice oa1 (on + 1) oc1) (on + 1) ((mdel b (L.take i)).map (swapN a b) ++ [((b, ⟨pb, xa, xn, xc⟩) : Bs × Ent)]) := hT4.out.app (l' := [((b, ⟨pb, xa, xn, xc⟩) : Bs × Ent)]) (below_alloc W4 _) HOWN.out rfl HGR.out
                  refine ⟨⟨i + 1, oa1, on + 1, oc1, by simp, by simp, hil, by omega, hide ?_⟩, ?_⟩
                  · rw [HTK.out, mdelE_app]
                    have e : (mdel b [((pk, ⟨pb, xa, xn, xc⟩) : Bs × Ent)]).map (swapN a b) = [((b, ⟨pb, xa, xn, xc⟩) : Bs × Ent)] := by have := HPA.out; subst this; simp [mdel, swapN, HPB.out]
                    rw [List.map_append, e]
                    exact hT2
                  · show m - ((i : Int) + 1).toNat < m - ((i : Nat) : Int).toNat
                    omega
                · have e2 : (pk == a) = false := by simpa using hpa
                  have HPA := hide hpa
                  clear hpa
                  have hrow4 : Hid (∀ o, (W3.alloc o).ownsRow w2.heap.size 73 2 (.slice oa on oc) on (eflat ((mdel b (L.take i)).map (swapN a b)))) := hide fun o => hT3.out.row.alloc o
                  have hsz := hT3.out.low.size
                  go_wp2_with (at_builtin; refine wpList_append_rd rfl (.tmp 67) (.tmp 69) 61 rfl w2.heap.size 73 iP (.agg #[.string ⟨#[]⟩, .slice none 0 0]) 2 40 Tryz.underlying61 hiP hyP0 hyP1 hyP2 rfl (by decide) (.slice oa on oc) on _ rfl (hrow4.out _) (.slice (some ⟨W3.heap.size, 0, none⟩) 1 1) 1 [.string ⟨pk.toArray⟩, .slice xa xn xc] rfl (rd_newE W3 #[.string ⟨pk.toArray⟩, .slice xa xn xc] 73 W3.heap.size 1 2 rfl (by decide) rfl) (by simp [Value.oneCell']) (by unfold maxLen; omega) (by omega) (by simp; omega) ?_; intro v1 w3 hown hgr hnil hv; obtain ⟨oa1, oc1, rfl⟩ := slice_of_row hown; have HOWN := hide hown; have HGR := hide hgr; clear hown hgr hnil hv)
                  have hT2 : ENew 73 w2 w3 (.slice oa1 (on + 1) oc1) (on + 1) ((mdel b (L.take i)).map (swapN a b) ++ [((pk, ⟨pb, xa, xn, xc⟩) : Bs × Ent)]) := hT3.out.app (l' := [((pk, ⟨pb, xa, xn, xc⟩) : Bs × Ent)]) (below_alloc W3 _) HOWN.out rfl HGR.out
                  refine ⟨⟨i + 1, oa1, on + 1, oc1, by simp, by simp, hil, by omega, hide ?_⟩, ?_⟩
                  · rw [HTK.out, mdelE_app]
                    have e : (mdel b [((pk, ⟨pb, xa, xn, xc⟩) : Bs × Ent)]).map (swapN a b) = [((pk, ⟨pb, xa, xn, xc⟩) : Bs × Ent)] := by simp [mdel, swapN, HPB.out, HPA.out]
                    rw [List.map_append, e]
                    exact hT2
                  · show m - ((i : Int) + 1).toNat < m - ((i : Nat) : Int).toNat
                    omega
            · have hin := hide (show i = m by omega)
              have hd : decide ((i : Int) < m) = false := decide_eq_false (by omega)
              have hT2 : Hid (ENew 73 w2 wr (.slice oa on oc) on ((mdel b L).map (swapN a b))) := hide (by
                have := hT.out
                rw [hin.out, HM.out, List.take_length] at this
                exact this)
              obtain ⟨hE8, _, hnE, _⟩ := h1.out.short OK.out.went
              have HNE := hide hnE
              have hLm : L.length ≤ 1048576 := by rw [← HM.out]; exact hL
              have HLM := hide hLm
              have HE8 := hide hE8
              clear hT hnE hLm hE8
              go_wp2_with fail
              refine (rf_drop rb s.went _ _ fc pc lv E L b hb HE8.out HLM.out wr h1.out).mono ?_
              rintro e w5 ⟨rfl, fa5, fc5, pa5, pc5, h5, c5⟩
              have H5 := hide h5
              have C5 := hide c5
              clear h5 c5 f1
              have hE5 : Hid ((mdel b E).length ≤ 8 ∧ (mdel b L).length ≤ 1048576) := hide ⟨Nat.le_trans (mdel_length b E) HE8.out, Nat.le_trans (mdel_length b L) HLM.out⟩
              go_wp2_with fail
              refine (rf_drop rb _ fa5 pa5 fc5 pc5 lv (mdel b E) (mdel b L) a ha hE5.out.1 hE5.out.2 w5 H5.out).mono ?_
              rintro e w6 ⟨rfl, fa6, fc6, pa6, pc6, h6, c6⟩
              have H6 := hide h6
              have C6 := hide c6
              have f6 := (rf_cells h6.blk).2.2.1
              have g6 := (rf_cells h6.blk).2.2.2.2.2.2.1 2
              clear h6 c6
              go_upto_region 25 with fail
              obtain ⟨W7, hW7⟩ : ∃ W7, W7 = w6.setCell ⟨rb, 2, none⟩ (.slice oa on oc) := ⟨_, rfl⟩
              rw [← hW7]
              obtain ⟨L9, hL9⟩ : ∃ L9, L9 = (mdel b L).map (swapN a b) := ⟨_, rfl⟩
              have hown6 : w6.ownsRow 0 73 2 (.slice oa on oc) on (eflat L9) := by
                have h1 := hT2.out.row
                rw [← hL9] at h1
                have hge := fun k hk => h1.lt k hk
                refine ownsRow_base (ownsRow_same h1 fun k hk => ?_) (Nat.zero_le _)
                have hkg := hge k hk
                have hn1 : k ∉ G0 rb (some ⟨g, 0, none⟩) pa := fun hm => by
                  have : k < w2.heap.size := HIN.out.lt k (by rw [rfBl_G0]; exact List.mem_append_left _ hm)
                  omega
                have hn2 : k ∉ G0 rb fa5 pa5 := fun hm => by
                  rcases C5.out.fresh k hm with h | h
                  · exact hn1 h
                  · omega
                exact (C6.out.block k (Nat.lt_of_lt_of_le hkg.2 C5.out.size) hn2).trans (C5.out.block k hkg.2 hn1)
              have hge9 : ∀ k, (Value.slice oa 0 0).ownBlock = some k → w2.heap.size ≤ k := fun k hk => (hT2.out.row.lt k (by rw [ownBlock_sl oa on oc 0 0]; exact hk)).1
              have hx9 : ∀ p ∈ L9, EX w6 p.2 := fun p hp => by
                rw [hL9] at hp
                obtain ⟨q, hq, rfl⟩ := List.mem_map.1 hp
                have e : (swapN a b q).2 = q.2 := by unfold swapN; split <;> rfl
                rw [e]
                exact H5.out.exKeep C6.out (H5.out.ent q (List.mem_append_right _ hq))
              have hx0 : EX w6 (⟨eb, ea, en, ec⟩ : Ent) := by
                have h0 : EX w2 (⟨eb, ea, en, ec⟩ : Ent) := HIN.out.ent (a, ⟨eb, ea, en, ec⟩) (List.mem_append_left _ (mget_mem HG0.out))
                exact H5.out.exKeep C6.out (h1.out.exKeep C5.out (h0.same fun k hk => hlow.out.block k (h0.lt hk)))
              have hnd := nodup_rename (b := b) HIN.out.rise HIN.out.ex HG0.out
              rw [← hL9] at hnd
              have hnd2 : (ebs (mdel a (mdel b E) ++ L9)).Nodup := by
                refine (ebs_sub ?_).nodup hnd
                exact List.sublist_cons_self _ _
              obtain ⟨q1, q2⟩ := H6.out.setP2 (s' := { s.went with files := mdel a (mdel b s.went.files), waits := L9.map ct }) hown6 (by rw [hL9]; exact hT2.out.len) rfl rfl rfl rfl rfl hx9 hnd2
              rw [← hW7] at q1 q2
              have HQ1 := hide q1
              have HQ2 := hide q2
              have hx7 : Hid (EX W7 (⟨eb, ea, en, ec⟩ : Ent)) := hide (by
                rw [hW7]
                exact hx0.same fun k hk => heap_set_ne fun e => ownsRow_off hx0.own H6.out.blk (by decide) (e ▸ hk))
              have HND := hide hnd
              have hE7 : Hid ((mdel a (mdel b E)).length ≤ 8 ∧ ∀ p ∈ mdel a (mdel b E), p.1.length ≤ 16) := hide ⟨Nat.le_trans (mdel_length a _) hE5.out.1, fun p hp => HNE.out p ((mdel_sub b E).subset ((mdel_sub a _).subset hp))⟩
              have hno : Hid (mget b (mdel a (mdel b E)) = none) := hide (by
                rw [show mdel a (mdel b E) = mdel a (mdel b E) from rfl]
                rw [mget_del_other (Ne.symm hab)]
                exact mget_mdel b E)
              have HL9 := hide hL9
              have hfin : Hid (∀ w8, RfMid W7 rb fa6 oa { s.went with files := mput strL b eb (mdel a (mdel b s.went.files)), waits := L9.map ct } lv (mput strL b ⟨eb, ea, en, ec⟩ (mdel a (mdel b E))) L9 w8 → RfTo w rb F { s.went with files := mput strL b ((mget a s.went.files).getD []) (mdel a (mdel b s.went.files)), waits := (mdel b s.went.waits).map fun p => if p.1 = a then (b, p.2) else p } w8) := hide fun w8 hm => by
                obtain ⟨fa8, fc8, pa8, pc8, r1, r2⟩ := hm
                have ef : (mget a s.went.files).getD [] = eb := by
                  rw [HIN.out.files, show E.map ct = E.map (fun p => (p.1, Ent.b p.2)) from rfl, mget_ct, HG0.out]
                  rfl
                have ew : L9.map ct = (mdel b s.went.waits).map fun p => if p.1 = a then (b, p.2) else p := by
                  rw [HL9.out, swap_ct, mdelE_ct, ← HIN.out.waits]
                rw [ef, ← ew]
                have hc := (chg_of_below (F := G0 rb (some ⟨g, 0, none⟩) pa) hlow.out).trans (C5.out.trans C6.out)
                have hc2 := (hc.more (Value.slice oa 0 0).ownBlock.toList fun k hk => hge9 k (by simpa using hk)).trans (HQ2.out.trans r2)
                obtain ⟨F3, z1, z2⟩ := r1.to (E := E) (L := L) hc2 fun k hk => .inl (by
                  have h3 := (ebs_perm ((mput_perm (e := (⟨eb, ea, en, ec⟩ : Ent)) hno.out).append_right L9)).mem_iff.1 hk
                  have h4 : k ∈ (⟨eb, ea, en, ec⟩ : Ent).v.ownBlock.toList ++ ebs (mdel a (mdel b E) ++ L9) := h3
                  rcases List.mem_append.1 h4 with h5 | h5
                  · exact mem_ebs.2 ⟨(a, ⟨eb, ea, en, ec⟩), List.mem_append_left _ (mget_mem HG0.out), by simpa using h5⟩
                  · rw [ebs_append, HL9.out, ebs_swap, ← ebs_append] at h5
                    exact (ebs_sub (((mdel_sub a _).trans (mdel_sub b E)).append (mdel_sub b L))).subset h5)
                rw [← HF2.out] at z2
                exact RfTo.after HB1.out ⟨F3, z1, HC2.out.trans z2⟩
              clear hown6 hge9 hx9 hx0 hnd hnd2 q1 q2 hW7 hL9 f6 g6
              go_wp2_with fail
              refine (rf_insert rb _ fa6 oa fc6 oc lv (mdel a (mdel b E)) L9 b eb ea en ec hb hE7.out.1 hE7.out.2 W7 HQ1.out hx7.out HND.out hno.out).mono ?_
              rintro e w8 ⟨rfl, hm⟩
              have HM8 := hide (hfin.out w8 hm)
              clear hm hfin
              go_wp2
              go_ret
              exact ⟨rfl, HM8.out⟩
end Go.Proofs.YtglgjakjhkdoaaaGreatDoor
