/-
  The document's file system: Read, Files, Used.
-/
import Derived.Test.YtglgjakjhkdoaaaGreatDoorZRfA
namespace Go.Proofs.YtglgjakjhkdoaaaGreatDoor
open Go.RowKit Go.Maps
set_option linter.unusedVariables false
set_option linter.unusedSimpArgs false

def RfTold (s : FsS) (k : Bs) (w : World) (e : Ending) (w' : World) : Prop :=
  if s.has k then ∃ a n c, e = .returned (.tuple #[.slice a n c, .int .i64 0]) ∧ Fresh w w' a n c (s.get k)
  else e = .returned (.tuple #[.slice none 0 0, .int .i64 80]) ∧ Below w.heap.size w w'
theorem RfIn.has {w : World} {rb : Nat} {s : FsS} {fa pa : Option Addr} {fc pc : Nat} {lv : Int} {E L : List (Bs × Ent)} (h : RfIn w rb s fa fc pa pc lv E L) (k : Bs) : s.has k = (mget k E).isSome := by
  unfold FsS.has
  rw [h.files, show E.map ct = E.map (fun p => (p.1, Ent.b p.2)) from rfl, mget_ct, Option.isSome_map]
theorem RfIn.getB {w : World} {rb : Nat} {s : FsS} {fa pa : Option Addr} {fc pc : Nat} {lv : Int} {E L : List (Bs × Ent)} (h : RfIn w rb s fa fc pa pc lv E L) {k : Bs} {e : Ent} (hg : mget k E = some e) : s.get k = e.b ++ pieces k (L.map ct) := by
  unfold FsS.get
  rw [h.files, show E.map ct = E.map (fun p => (p.1, Ent.b p.2)) from rfl, mget_ct, hg, h.waits]
  rfl

set_option maxRecDepth 100000 in
set_option maxHeartbeats 1600000 in
theorem rf_ReadB (rb : Nat) (s : FsS) (F : List Nat) (k : Bs) (hk : k.length ≤ maxLen) (w : World) (h : RfRep w rb s F) (ok : s.OkB) :
    Calls Tryz.prog 52 #[.pointer (some ⟨rb, 0, none⟩), .string ⟨k.toArray⟩] w (RfTold s k w) := by
  obtain ⟨fa, fc, pa, pc, lv, E, L, h, rfl⟩ := h
  obtain ⟨hE, hL, hnE, hnL⟩ := h.shortB ok
  have HF := hide (rf_find rb s fa pa fc pc lv E L k hk hE hnE w h)
  have HHAS := hide (h.has k)
  have HOK := hide ok
  have HIN := hide h
  obtain ⟨n, hn⟩ : ∃ n, n = E.length := ⟨_, rfl⟩
  obtain ⟨m, hm⟩ : ∃ m, m = L.length := ⟨_, rfl⟩
  have HN := hide hn; have HM := hide hm
  rw [← hn] at hE
  rw [← hm] at hL
  clear h ok hn hm hnE hnL
  cases hg : mget k E with
  | none =>
    have hx : Hid ((mget k E).isSome = false) := hide (by rw [hg]; rfl)
    have e : ∀ e' w', (e' = .returned (.tuple #[.slice none 0 0, .int .i64 80]) ∧ Below w.heap.size w w') → RfTold s k w e' w' := fun e' w' h => by unfold RfTold; rw [HHAS.out, hx.out, if_neg (by simp)]; exact h
    have HE := hide e
    clear e hg
    go_enter Tryz.func52, Tryz.ntmps52
    go_wp2_with (refine HF.out.mono ?_; rintro e w' ⟨rfl, hb⟩; rw [hx.out]; have HB := hide hb; clear hb)
    go_ret2
    exact HE.out _ _ ⟨rfl, HB.out⟩
  | some e0 =>
    have hx : Hid ((mget k E).isSome = true) := hide (by rw [hg]; rfl)
    have e : ∀ e' w', (∃ a n c, e' = .returned (.tuple #[.slice a n c, .int .i64 0]) ∧ Fresh w w' a n c (s.get k)) → RfTold s k w e' w' := fun e' w' h => by unfold RfTold; rw [HHAS.out, hx.out, if_pos rfl]; exact h
    have HE := hide e
    obtain ⟨i, hi⟩ : ∃ i, i = posF k E := ⟨_, rfl⟩
    have hp : E[i]? = some (k, e0) := by rw [hi]; exact (posF_has HIN.out.rise e0).1 hg
    have hget : Hid (s.get k = e0.b ++ pieces k (L.map ct)) := hide (HIN.out.getB hg)
    have hel : Hid (EX w e0) := hide (HIN.out.ent (k, e0) (List.mem_append_left _ (mget_mem hg)))
    have hln : Hid ((e0.b ++ pieces k (L.map ct)).length ≤ 1048576) := hide (by
      rw [← hget.out]
      have h1 := get_total s k
      have h2 := HOK.out.used_le
      omega)
    have HI := hide hi; have HP := hide hp
    have hin : i < n := by have := (List.getElem?_eq_some_iff.1 hp).1; have := HN.out; omega
    clear e hg hi hp
    obtain ⟨eb, ea, en, ec⟩ := e0
    go_enter Tryz.func52, Tryz.ntmps52
    go_wp2_with fail
    refine HF.out.mono ?_
    rintro e w1 ⟨rfl, hb1⟩
    rw [hx.out, ← HI.out]
    have H1 := hide (HIN.out.low hb1)
    have HB1 := hide hb1
    obtain ⟨g, rfl, c0, c1, hg, cf⟩ := erow_get H1.out.frow rfl HP.out
    have f1 := (rf_cells H1.out.blk).2.1
    rw [← HN.out] at f1
    have hs1 := hb1.size
    have hO0 : Hid (RowIs w w.heap.size (.slice none 0 0) [] w1) := hide ⟨World.ownsRow_nil _ _ _ _, hb1, hb1.size⟩
    have hr0 : Hid (RdB w1 (.slice ea en ec) eb) := hide (hel.out.rd.low hb1)
    clear hb1 c0 cf
    go_wp2_with (at_builtin; refine wpList_copy_own rfl _ _ 22 rfl w w.heap.size 5 Tryz.underlying22 (by kernel_rfl) _ ([] : Bs) rfl (by exact hO0.out) _ eb rfl (by exact hr0.out) (by have := hln.out; simp only [List.length_append] at this; simp; omega) ?_; intro a1 co1 w1 hown1 hb1; obtain ⟨n1, hn1⟩ : ∃ n, n = (([] : Bs) ++ eb).length := ⟨_, rfl⟩; rw [← hn1] at hown1 ⊢; have N1 := hide hn1; have HO1 := hide hown1; have HB1 := hide hb1; skip; clear hn1 hown1 hb1)
    clear f1 c1 H1 hs1 hO0 hr0
    go_loopw [8, 9] (fun ov jv wr => ∃ (O : Bs) (j nO cO : Nat) (aO : Option Addr), ov = .slice aO nO cO ∧ jv = .int .i64 j ∧ j ≤ m ∧ Hid (nO = O.length) ∧ Hid (O = eb ++ pieces k ((L.take j).map ct)) ∧ Hid (RowIs w w.heap.size (.slice aO nO cO) O wr)) (fun _ jv _ => match jv with | .int _ j => m - j.toNat | _ => 0)
    case atStart => exact ⟨eb, 0, n1, co1, a1, rfl, rfl, Nat.zero_le _, hide (by simpa using N1.out), hide (by simp [pieces]), hide (by have := HO1.out; simpa using this)⟩
    case round =>
      obtain ⟨O, j, nO, cO, aO, rfl, rfl, hj, hnO, hOe, hO⟩ := hrel
      have hbw := hO.out.2.1
      have f2 := (rf_cells (HIN.out.low hbw).blk).2.2.1
      rw [← HM.out] at f2
      by_cases hjl : j < m
      · obtain ⟨q, hq⟩ : ∃ q, L[j]? = some q := ⟨_, List.getElem?_eq_getElem (by have := HM.out; omega)⟩
        obtain ⟨g2, rfl, d0, d1, hg2, cf⟩ := erow_get (HIN.out.low hbw).prow rfl hq
        have hqx := hide ((HIN.out.low hbw).ent q (List.mem_append_right _ (List.mem_of_getElem? hq)))
        have hstep : Hid (pieces k ((L.take (j + 1)).map ct) = pieces k ((L.take j).map ct) ++ (if q.1 = k then q.2.b else [])) := hide (by
          rw [take_ct (List.getElem?_eq_some_iff.1 hq).1, pieces_snoc, (List.getElem?_eq_some_iff.1 hq).2]
          rfl)
        have hln2 : Hid ((eb ++ pieces k ((L.take (j + 1)).map ct)).length ≤ 1048576) := hide (by
          have h1 := hln.out
          have h2 : pieces k (L.map ct) = pieces k ((L.take (j + 1)).map ct) ++ pieces k ((L.drop (j + 1)).map ct) := by
            rw [← pieces_append, ← List.map_append, List.take_append_drop]
          rw [h2] at h1
          simp only [List.length_append] at h1 ⊢
          omega)
        have hd : decide ((j : Int) < m) = true := by simpa using hjl
        have hw2 : IntKind.i64.wrap ((j : Int) + 1) = (j : Int) + 1 := wrap64 (by omega) (by omega)
        obtain ⟨pk, pb, xa, xn, xc⟩ := q
        simp only at d0 d1
        clear hq cf
        by_cases hpk : pk = k
        · subst hpk
          have hst2 : Hid (eb ++ pieces pk ((L.take (j + 1)).map ct) = O ++ pb) := hide (by rw [hstep.out, if_pos rfl, hOe.out, List.append_assoc])
          have hl3 : Hid (O.length + pb.length ≤ 1048576) := hide (by have := hln2.out; rw [hst2.out, List.length_append] at this; exact this)
          have hrd3 : Hid (RdB wr (.slice xa xn xc) pb) := hide hqx.out.rd
          have k0 : (pk == pk) = true := by simp
          clear hstep hbw
          go_wp2_with (at_builtin; refine wpList_copy_own rfl _ _ 22 rfl w w.heap.size 5 Tryz.underlying22 (by kernel_rfl) _ O rfl (by exact hO.out) _ pb rfl (by exact hrd3.out) (by have := hl3.out; omega) ?_; intro a1 co1 w1 hown1 hb1; obtain ⟨n1, hn1⟩ : ∃ n, n = (O ++ pb).length := ⟨_, rfl⟩; rw [← hn1] at hown1 ⊢; have N1 := hide hn1; have HO1 := hide hown1; have HB1 := hide hb1; skip; clear hn1 hown1 hb1)
          refine ⟨⟨O ++ pb, j + 1, n1, co1, a1, rfl, rfl, hjl, N1, hide hst2.out.symm, HO1⟩, ?_⟩
          show m - ((j : Int) + 1).toNat < m - ((j : Nat) : Int).toNat
          omega
        · have hst2 : Hid (eb ++ pieces k ((L.take (j + 1)).map ct) = O) := hide (by rw [hstep.out, if_neg hpk, List.append_nil, hOe.out])
          have hpb : (pk == k) = false := by simpa using hpk
          clear hstep hbw
          go_wp2
          refine ⟨⟨O, j + 1, nO, cO, aO, rfl, rfl, hjl, hnO, hide hst2.out.symm, hO⟩, ?_⟩
          show m - ((j : Int) + 1).toNat < m - ((j : Nat) : Int).toNat
          omega
      · have hjm := hide (show j = m by omega)
        have hd : decide ((j : Int) < m) = false := decide_eq_false (by omega)
        have hfin : Hid (O = s.get k) := hide (by rw [hOe.out, hget.out, hjm.out, HM.out, List.take_length])
        clear hOe hbw
        go_wp2
        go_ret2
        refine HE.out _ _ ⟨aO, nO, cO, rfl, ?_, ?_, hO.out.2.1⟩
        · have h1 := hO.out.1
          rw [← hnO.out, hfin.out] at h1
          exact h1
        · rw [← hfin.out]
          exact hnO.out

theorem rfFiles_at {s : FsS} {i : Nat} (hi : i < s.files.length) : (fsFiles s).take (i + 1) = (fsFiles s).take i ++ [(s.files[i].1, s.get s.files[i].1)] := by
  have h1 : i < (fsFiles s).length := by unfold fsFiles; rw [List.length_map]; exact hi
  rw [List.take_add_one, List.getElem?_eq_getElem h1]
  simp only [fsFiles, List.getElem_map]
  rfl
set_option maxRecDepth 100000 in
set_option maxHeartbeats 1600000 in
theorem rf_FilesB (rb : Nat) (s : FsS) (F : List Nat) (w : World) (h : RfRep w rb s F) (ok : s.OkB) :
    Calls Tryz.prog 41 #[.pointer (some ⟨rb, 0, none⟩)] w (FilesTold 72 (fsFiles s) w) := by
  have HREP := hide h
  obtain ⟨fa, fc, pa, pc, lv, E, L, h, rfl⟩ := h
  obtain ⟨hE, hL, hnE, hnL⟩ := h.shortB ok
  have HOK := hide ok
  have HIN := hide h
  have HNE := hide hnE
  obtain ⟨n, hn⟩ : ∃ n, n = E.length := ⟨_, rfl⟩
  have HN := hide hn
  have hfl : Hid (s.files.length = n) := hide (by rw [h.files, List.length_map, ← hn])
  rw [← hn] at hE
  have e0 : ∀ e w', (∃ a c L', e = .returned (.slice a n c) ∧ FilesAt w.heap.size 72 w' (.slice a n c) L' ∧ L'.map ct = fsFiles s ∧ Below w.heap.size w w') → FilesTold 72 (fsFiles s) w e w' := fun e w' h => by
    unfold FilesTold
    have e1 : (fsFiles s).length = n := by unfold fsFiles; rw [List.length_map]; exact hfl.out
    rw [e1]
    exact h
  have HE := hide e0
  clear h ok hn hL hnE hnL e0
  obtain ⟨iF, hiF, hyF0, hyF1, hyF2⟩ := info_parts refFile_info
  go_enter Tryz.func41, Tryz.ntmps41
  go_wp2
  go_loopw [3, 4, 5, 6] (fun ov iv _ _ wr => ∃ (i : Nat) (oa : Option Addr) (oc : Nat), ov = .slice oa i oc ∧ iv = .int .i64 i ∧ i ≤ n ∧ Hid (∃ L', FilesAt w.heap.size 72 wr (.slice oa i oc) L' ∧ L'.map ct = (fsFiles s).take i ∧ L'.length = i) ∧ Hid (Below w.heap.size w wr)) (fun _ iv _ _ _ => match iv with | .int _ j => n - j.toNat | _ => 0)
  case atStart => exact ⟨0, none, 0, rfl, rfl, Nat.zero_le _, hide ⟨[], FilesAt.nil _ _ _, rfl, rfl⟩, hide (Below.refl _ _)⟩
  case round =>
    obtain ⟨i, oa, oc, rfl, rfl, hi, hrel, hbw⟩ := hrel
    have h1 := hide (HIN.out.low hbw.out)
    have f1 := (rf_cells h1.out.blk).2.1
    rw [← HN.out] at f1
    by_cases hin : i < n
    · obtain ⟨p, hp⟩ : ∃ p, E[i]? = some p := ⟨_, List.getElem?_eq_getElem (by have := HN.out; omega)⟩
      obtain ⟨g, rfl, c0, c1, hg, cf⟩ := erow_get h1.out.frow rfl hp
      obtain ⟨nm, pe⟩ := p
      have hnl : nm.length ≤ maxLen := by have := HNE.out (nm, pe) (List.mem_of_getElem? hp); unfold maxLen; simp only at this; omega
      have hsl : i < s.files.length := by rw [hfl.out]; exact hin
      have hnm : s.files[i].1 = nm := by
        have h2 : s.files[i]? = some (nm, pe.b) := by rw [HIN.out.files, List.getElem?_map, hp]; rfl
        rw [(List.getElem?_eq_some_iff.1 h2).2]
      have hat : Hid ((fsFiles s).take (i + 1) = (fsFiles s).take i ++ [(nm, s.get nm)]) := hide (by rw [rfFiles_at hsl, hnm])
      have hhas : Hid (s.has nm = true) := hide (by
        rw [← hnm]
        exact mget_isSome_of_mem (List.getElem_mem hsl))
      have hd : decide ((i : Int) < n) = true := by simpa using hin
      simp only at c0
      clear hp cf c1 h1 hsl hnm
      have F1 := hide f1; have C0 := hide c0
      go_wp2_with fail
      refine (rf_ReadB rb s _ nm hnl wr (HREP.out.low hbw.out) HOK.out).mono ?_
      rintro e w3 hr
      unfold RfTold at hr
      rw [hhas.out, if_pos rfl] at hr
      obtain ⟨ra, rn, rc, rfl, hfr⟩ := hr
      obtain ⟨L', hL1, hL2, hL3⟩ := hrel.out
      have hrow4 : Hid (∀ o, (w3.alloc o).ownsRow w.heap.size 72 2 (.slice oa i oc) i (eflat L')) := hide fun o => by
        have h1 := hL1.row
        rw [hL3] at h1
        exact ownsRow_below (ownsRow_below h1 hfr.2.2 (Nat.le_refl _)) (below_alloc w3 o) (Nat.le_refl _)
      have hs3 := hfr.2.2.size
      have hs2 := hbw.out.size
      have hwi : IntKind.i64.wrap ((i : Int) + 1) = (i : Int) + 1 := wrap64 (by omega) (by omega)
      have hadd := hide (hadd_of (w2 := w) hfr hL1 hL2 hL3 hat.out hbw.out hs2)
      have f1 := (hfr.2.2.cell (p := ⟨rb, 1, none⟩) (by have := (rf_cells (HIN.out.low hbw.out).blk).2.2.2.2.2.2.2; exact this)).trans F1.out
      have c0 := (hfr.2.2.cell (p := ⟨g, i * 2, none⟩) hg).trans C0.out
      clear hrel hfr hL1 hL2 hL3
      go_wp2_with (at_builtin; refine wpList_append_rd rfl (.tmp 29) (.tmp 40) 60 rfl w.heap.size 72 iF (.agg #[.string ⟨#[]⟩, .slice none 0 0]) 2 40 Tryz.underlying60 hiF hyF0 hyF1 hyF2 rfl (by decide) (.slice oa i oc) i (eflat L') rfl (hrow4.out _) _ 1 [.string ⟨nm.toArray⟩, .slice ra rn rc] rfl (rd_new _ _ _ 1 2 (by simp) (by simp)) (by simp [Value.oneCell']) (by unfold maxLen; omega) (by omega) (by simp; omega) ?_; intro v1 w5 hown hgr hnil hv; obtain ⟨oa1, oc1, rfl⟩ := slice_of_row hown; have HADD := hide (hadd.out _ w5 (.slice oa1 (i + 1) oc1) hown hgr hv); clear hown hgr hnil hv)
      refine ⟨⟨i + 1, oa1, oc1, rfl, by simp, hin, hide HADD.out.1, hide HADD.out.2⟩, ?_⟩
      show n - ((i : Int) + 1).toNat < n - ((i : Nat) : Int).toNat
      omega
    · have hinn := hide (show i = n by omega)
      have hd : decide ((i : Int) < n) = false := decide_eq_false (by omega)
      have hend : Hid (∃ L', FilesAt w.heap.size 72 wr (.slice oa i oc) L' ∧ L'.map ct = fsFiles s) := hide (by
        obtain ⟨L', hL1, hL2, hL3⟩ := hrel.out
        refine ⟨L', hL1, ?_⟩
        rw [hL2, hinn.out, ← hfl.out]
        exact List.take_of_length_le (by unfold fsFiles; rw [List.length_map]; omega))
      clear hrel h1
      go_wp2
      go_ret
      obtain ⟨L', h2, h3⟩ := hend.out
      rw [hinn.out] at h2 ⊢
      exact HE.out _ _ ⟨oa, oc, L', rfl, h2, h3, hbw.out⟩
theorem rf_Read (rb : Nat) (s : FsS) (F : List Nat) (k : Bs) (hk : k.length ≤ maxLen) (w : World) (h : RfRep w rb s F) (ok : s.Ok) :
    Calls Tryz.prog 52 #[.pointer (some ⟨rb, 0, none⟩), .string ⟨k.toArray⟩] w (RfTold s k w) := rf_ReadB rb s F k hk w h ok.toB
theorem rf_Files (rb : Nat) (s : FsS) (F : List Nat) (w : World) (h : RfRep w rb s F) (ok : s.Ok) :
    Calls Tryz.prog 41 #[.pointer (some ⟨rb, 0, none⟩)] w (FilesTold 72 (fsFiles s) w) := rf_FilesB rb s F w h ok.toB
end Go.Proofs.YtglgjakjhkdoaaaGreatDoor
