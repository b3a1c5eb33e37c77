/-
The document's file system: drop; a file's bytes laid anew.  (Printed by gen_rf.py.)
The document's file system: Create, Remove, Append.
-/
import Derived.Test.YtglgjakjhkdoaaaGreatDoorZRfD
namespace Go.Proofs.YtglgjakjhkdoaaaGreatDoor
open Go.RowKit Go.Maps
set_option linter.unusedVariables false
set_option linter.unusedSimpArgs false

theorem piece_info : (Tryz.prog.info? 73).map (fun i => (i.zero, i.size, i.bytes)) = some (some (.agg #[.string ⟨#[]⟩, .slice none 0 0]), 2, 40) := by kernel_rfl
theorem mdelE_app (k : Bs) (l m : List (Bs × Ent)) : mdel k (l ++ m) = mdel k l ++ mdel k m := by unfold mdel; exact List.filter_append ..
theorem takeE_step {l : List (Bs × Ent)} {i : Nat} {p : Bs × Ent} (hi : l[i]? = some p) : l.take (i + 1) = l.take i ++ [p] := by rw [List.take_add_one, hi]; rfl
theorem mdel_sub {ν : Type} (k : Bs) (E : List (Bs × ν)) : (mdel k E).Sublist E := List.filter_sublist
theorem mdelE_ct (k : Bs) (E : List (Bs × Ent)) : (mdel k E).map ct = mdel k (E.map ct) := mdel_ct Ent.b k E
theorem RfMid.then {w w1 w2 : World} {rb : Nat} {fa pa : Option Addr} {s s' : FsS} {lv lv' : Int} {E L E' L' : List (Bs × Ent)} (h : RfMid w rb fa pa s lv E L w1) (k : ∀ fa1 fc1 pa1 pc1, RfIn w1 rb s fa1 fc1 pa1 pc1 lv E L → RfMid w1 rb fa1 pa1 s' lv' E' L' w2) : RfMid w rb fa pa s' lv' E' L' w2 := by
  obtain ⟨fa1, fc1, pa1, pc1, h1, h2⟩ := h
  obtain ⟨fa2, fc2, pa2, pc2, h3, h4⟩ := k _ _ _ _ h1
  exact ⟨fa2, fc2, pa2, pc2, h3, h2.trans h4⟩

set_option maxRecDepth 100000 in
set_option maxHeartbeats 3200000 in
theorem rf_drop (rb : Nat) (s : FsS) (fa pa : Option Addr) (fc pc : Nat) (lv : Int) (E L : List (Bs × Ent)) (k : Bs) (hk : k.length ≤ maxLen) (hE : E.length ≤ 8) (hL : L.length ≤ 1048576) (w : World) (h : RfIn w rb s fa fc pa pc lv E L) :
    Calls Tryz.prog 69 #[.pointer (some ⟨rb, 0, none⟩), .string ⟨k.toArray⟩] w fun e w' => e = .returned (.tuple #[]) ∧ RfMid w rb fa pa { s with files := mdel k s.files, waits := mdel k s.waits } lv (mdel k E) (mdel k L) w' := by
  have HIN := hide h
  obtain ⟨n, hn⟩ : ∃ n, n = E.length := ⟨_, rfl⟩
  obtain ⟨m, hm⟩ : ∃ m, m = L.length := ⟨_, rfl⟩
  have HN := hide hn; have HM := hide hm
  rw [← hn] at hE
  rw [← hm] at hL
  have hmid : Hid (∀ wr oa oc on, ENew 72 w wr (.slice oa on oc) on (mdel k E) → RfIn (wr.setCell ⟨rb, 1, none⟩ (.slice oa on oc)) rb { s with files := mdel k s.files } oa oc pa pc lv (mdel k E) L ∧ Chg (G0 rb fa pa) (G0 rb oa pa) w (wr.setCell ⟨rb, 1, none⟩ (.slice oa on oc))) := hide fun wr oa oc on hN =>
    h.setF hN rfl rfl rfl rfl (by rw [mdelE_ct, ← h.files]) (fun p hp => h.ent p (List.mem_append_left _ ((mdel_sub k E).subset hp))) ((ebs_sub ((mdel_sub k E).append (List.Sublist.refl L))).nodup h.ex) (h.rise.del k)
  obtain ⟨iF, hiF, hyF0, hyF1, hyF2⟩ := info_parts refFile_info
  obtain ⟨iP, hiP, hyP0, hyP1, hyP2⟩ := info_parts piece_info
  clear h hn hm
  go_enter Tryz.func69, Tryz.ntmps69
  go_wp2
  go_loopw [4, 5] (fun ov iv wr => ∃ (i : Nat) (oa : Option Addr) (on oc : Nat), ov = .slice oa on oc ∧ iv = .int .i64 i ∧ i ≤ n ∧ on ≤ i ∧ Hid (ENew 72 w wr (.slice oa on oc) on (mdel k (E.take i)))) (fun _ iv _ => match iv with | .int _ j => n - j.toNat | _ => 0)
  case atStart => exact ⟨0, none, 0, 0, rfl, rfl, Nat.zero_le _, Nat.le_refl _, hide (by have := ENew.nil 72 w w (Below.refl _ _); simpa [mdel] using this)⟩
  case round =>
    obtain ⟨i, oa, on, oc, rfl, rfl, hi, hon, hT⟩ := hrel
    have hlow := hide hT.out.low
    have h1 := hide (HIN.out.low hlow.out)
    have f1 := (rf_cells h1.out.blk).2.1
    rw [← HN.out] at f1
    by_cases hil : i < n
    · obtain ⟨p, hp⟩ : ∃ p, E[i]? = some p := ⟨_, List.getElem?_eq_getElem (by have := HN.out; omega)⟩
      obtain ⟨g, rfl, c0, c1, hgl, cf⟩ := erow_get h1.out.frow rfl hp
      obtain ⟨pk, pb, xa, xn, xc⟩ := p
      have HTK := hide (takeE_step hp)
      have hd : decide ((i : Int) < n) = true := by simpa using hil
      have hwi : IntKind.i64.wrap ((i : Int) + 1) = (i : Int) + 1 := wrap64 (by omega) (by omega)
      simp only at c0 c1
      clear hp cf h1
      by_cases he : pk = k
      · have heb : (pk == k) = true := by simpa using he
        have hnb : (pk != k) = false := by simpa using he
        have hT2 : Hid (ENew 72 w wr (.slice oa on oc) on (mdel k (E.take (i + 1)))) := hide (by
          rw [HTK.out, mdelE_app]
          have e : mdel k [((pk, ⟨pb, xa, xn, xc⟩) : Bs × Ent)] = [] := by simp [mdel, he]
          rw [e, List.append_nil]
          exact hT.out)
        go_wp2
        refine ⟨⟨i + 1, oa, on, oc, rfl, by simp, hil, by omega, hT2⟩, ?_⟩
        show n - ((i : Int) + 1).toNat < n - ((i : Nat) : Int).toNat
        omega
      · have heb : (pk == k) = false := by simpa using he
        have hnb : (pk != k) = true := by simpa using he
        have hrow4 : Hid (∀ o, (wr.alloc o).ownsRow w.heap.size 72 2 (.slice oa on oc) on (eflat (mdel k (E.take i)))) := hide fun o => hT.out.row.alloc o
        have hsz := hlow.out.size
        go_wp2_with (at_builtin; refine wpList_append_rd rfl (.tmp 27) (.tmp 35) 60 rfl w.heap.size 72 iF (.agg #[.string ⟨#[]⟩, .slice none 0 0]) 2 40 Tryz.underlying60 hiF hyF0 hyF1 hyF2 rfl (by decide) (.slice oa on oc) on _ rfl (hrow4.out _) (.slice (some ⟨wr.heap.size, 0, none⟩) 1 1) 1 [.string ⟨pk.toArray⟩, .slice xa xn xc] rfl (rd_newE wr #[.string ⟨pk.toArray⟩, .slice xa xn xc] 72 wr.heap.size 1 2 rfl (by decide) rfl) (by simp [Value.oneCell']) (by unfold maxLen; omega) (by omega) (by simp; omega) ?_; intro v1 w3 hown hgr hnil hv; obtain ⟨oa1, oc1, rfl⟩ := slice_of_row hown; have HOWN := hide hown; have HGR := hide hgr; clear hown hgr hnil hv)
        have hT2 : ENew 72 w w3 (.slice oa1 (on + 1) oc1) (on + 1) (mdel k (E.take i) ++ [((pk, ⟨pb, xa, xn, xc⟩) : Bs × Ent)]) := hT.out.app (l' := [((pk, ⟨pb, xa, xn, xc⟩) : Bs × Ent)]) (below_alloc wr _) HOWN.out rfl HGR.out
        refine ⟨⟨i + 1, oa1, on + 1, oc1, by simp, by simp, hil, by omega, hide ?_⟩, ?_⟩
        · rw [HTK.out, mdelE_app]
          have e : mdel k [((pk, ⟨pb, xa, xn, xc⟩) : Bs × Ent)] = [((pk, ⟨pb, xa, xn, xc⟩) : Bs × Ent)] := by simp [mdel, he]
          rw [e]
          exact hT2
        · show n - ((i : Int) + 1).toNat < n - ((i : Nat) : Int).toNat
          omega
    · have hin := hide (show i = n by omega)
      have hd : decide ((i : Int) < n) = false := decide_eq_false (by omega)
      have hT2 : Hid (ENew 72 w wr (.slice oa on oc) on (mdel k E)) := hide (by
        have := hT.out
        rw [hin.out, HN.out, List.take_length] at this
        exact this)
      have c2 := (rf_cells h1.out.blk).2.2.2.2.2.2.1 1
      clear hT h1
      have hM := hide (hmid.out wr oa oc on hT2.out)
      obtain ⟨W1, hW1⟩ : ∃ W1, W1 = wr.setCell ⟨rb, 1, none⟩ (.slice oa on oc) := ⟨_, rfl⟩
      rw [← hW1] at hM
      have HIN1 := hide hM.out.1
      have HC1 := hide hM.out.2
      clear hM hlow hT2 hmid
      go_upto_region 7 with fail
      rw [← hW1]
      clear hW1 f1 c2 hd hi hon hil
      have hfin : Hid (∀ wr2 oa2 oc2 on2, ENew 73 W1 wr2 (.slice oa2 on2 oc2) on2 (mdel k L) → RfMid w rb fa pa { s with files := mdel k s.files, waits := mdel k s.waits } lv (mdel k E) (mdel k L) (wr2.setCell ⟨rb, 2, none⟩ (.slice oa2 on2 oc2))) := hide fun wr2 oa2 oc2 on2 hN => by
        obtain ⟨q1, q2⟩ := HIN1.out.setP (s' := { s with files := mdel k s.files, waits := mdel k s.waits }) hN rfl rfl rfl (by show mdel k s.waits = _; rw [mdelE_ct, ← HIN1.out.waits]) rfl (fun p hp => HIN1.out.ent p (List.mem_append_right _ ((mdel_sub k L).subset hp))) ((ebs_sub ((List.Sublist.refl (mdel k E)).append (mdel_sub k L))).nodup HIN1.out.ex)
        exact ⟨_, _, _, _, q1, HC1.out.trans q2⟩
      clear HC1
      rename_i wr0
      clear hin
      go_wp2
      go_loopw [6, 7] (fun ov iv wr => ∃ (i : Nat) (oa : Option Addr) (on oc : Nat), ov = .slice oa on oc ∧ iv = .int .i64 i ∧ i ≤ m ∧ on ≤ i ∧ Hid (ENew 73 W1 wr (.slice oa on oc) on (mdel k (L.take i)))) (fun _ iv _ => match iv with | .int _ j => m - j.toNat | _ => 0)
      case atStart => exact ⟨0, none, 0, 0, rfl, rfl, Nat.zero_le _, Nat.le_refl _, hide (by have := ENew.nil 73 W1 W1 (Below.refl _ _); simpa [mdel] using this)⟩
      case round =>
        obtain ⟨i, oa, on, oc, rfl, rfl, hi, hon, hT⟩ := hrel
        have hlow := hide hT.out.low
        have h1 := hide (HIN1.out.low hlow.out)
        have f1 := (rf_cells h1.out.blk).2.2.1
        rw [← HM.out] at f1
        by_cases hil : i < m
        · obtain ⟨p, hp⟩ : ∃ p, L[i]? = some p := ⟨_, List.getElem?_eq_getElem (by have := HM.out; omega)⟩
          obtain ⟨g, rfl, c0, c1, hgl, cf⟩ := erow_get h1.out.prow rfl hp
          obtain ⟨pk, pb, xa, xn, xc⟩ := p
          have HTK := hide (takeE_step hp)
          have hd : decide ((i : Int) < m) = true := by simpa using hil
          have hwi : IntKind.i64.wrap ((i : Int) + 1) = (i : Int) + 1 := wrap64 (by omega) (by omega)
          simp only at c0 c1
          clear hp cf h1
          by_cases he : pk = k
          · have heb : (pk == k) = true := by simpa using he
            have hnb : (pk != k) = false := by simpa using he
            have hT2 : Hid (ENew 73 W1 wr (.slice oa on oc) on (mdel k (L.take (i + 1)))) := hide (by
              rw [HTK.out, mdelE_app]
              have e : mdel k [((pk, ⟨pb, xa, xn, xc⟩) : Bs × Ent)] = [] := by simp [mdel, he]
              rw [e, List.append_nil]
              exact hT.out)
            go_wp2
            refine ⟨⟨i + 1, oa, on, oc, rfl, by simp, hil, by omega, hT2⟩, ?_⟩
            show m - ((i : Int) + 1).toNat < m - ((i : Nat) : Int).toNat
            omega
          · have heb : (pk == k) = false := by simpa using he
            have hnb : (pk != k) = true := by simpa using he
            have hrow4 : Hid (∀ o, (wr.alloc o).ownsRow W1.heap.size 73 2 (.slice oa on oc) on (eflat (mdel k (L.take i)))) := hide fun o => hT.out.row.alloc o
            have hsz := hlow.out.size
            go_wp2_with (at_builtin; refine wpList_append_rd rfl (.tmp 60) (.tmp 68) 61 rfl W1.heap.size 73 iP (.agg #[.string ⟨#[]⟩, .slice none 0 0]) 2 40 Tryz.underlying61 hiP hyP0 hyP1 hyP2 rfl (by decide) (.slice oa on oc) on _ rfl (hrow4.out _) (.slice (some ⟨wr.heap.size, 0, none⟩) 1 1) 1 [.string ⟨pk.toArray⟩, .slice xa xn xc] rfl (rd_newE wr #[.string ⟨pk.toArray⟩, .slice xa xn xc] 73 wr.heap.size 1 2 rfl (by decide) rfl) (by simp [Value.oneCell']) (by unfold maxLen; omega) (by omega) (by simp; omega) ?_; intro v1 w3 hown hgr hnil hv; obtain ⟨oa1, oc1, rfl⟩ := slice_of_row hown; have HOWN := hide hown; have HGR := hide hgr; clear hown hgr hnil hv)
            have hT2 : ENew 73 W1 w3 (.slice oa1 (on + 1) oc1) (on + 1) (mdel k (L.take i) ++ [((pk, ⟨pb, xa, xn, xc⟩) : Bs × Ent)]) := hT.out.app (l' := [((pk, ⟨pb, xa, xn, xc⟩) : Bs × Ent)]) (below_alloc wr _) HOWN.out rfl HGR.out
            refine ⟨⟨i + 1, oa1, on + 1, oc1, by simp, by simp, hil, by omega, hide ?_⟩, ?_⟩
            · rw [HTK.out, mdelE_app]
              have e : mdel k [((pk, ⟨pb, xa, xn, xc⟩) : Bs × Ent)] = [((pk, ⟨pb, xa, xn, xc⟩) : Bs × Ent)] := by simp [mdel, he]
              rw [e]
              exact hT2
            · show m - ((i : Int) + 1).toNat < m - ((i : Nat) : Int).toNat
              omega
        · have hin := hide (show i = m by omega)
          have hd : decide ((i : Int) < m) = false := decide_eq_false (by omega)
          have hT2 : Hid (ENew 73 W1 wr (.slice oa on oc) on (mdel k L)) := hide (by
            have := hT.out
            rw [hin.out, HM.out, List.take_length] at this
            exact this)
          have c2 := (rf_cells h1.out.blk).2.2.2.2.2.2.1 2
          clear hT h1
          go_wp2
          go_end0
          exact ⟨rfl, hfin.out _ _ _ _ hT2.out⟩
end Go.Proofs.YtglgjakjhkdoaaaGreatDoor

namespace Go.Proofs.YtglgjakjhkdoaaaGreatDoor
open Go.RowKit Go.Maps
set_option linter.unusedVariables false
set_option linter.unusedSimpArgs false

theorem rf_find' (rb : Nat) (s : FsS) (F : List Nat) (k : Bs) (hk : k.length ≤ maxLen) (w : World) (h : RfRep w rb s F) (ok : s.Ok) :
    Calls Tryz.prog 23 #[.pointer (some ⟨rb, 0, none⟩), .string ⟨k.toArray⟩] w fun e w' => e = .returned (.tuple #[.int .i64 (posF k s.files), .bool (s.has k)]) ∧ Below w.heap.size w w' := by
  obtain ⟨fa, fc, pa, pc, lv, E, L, h, rfl⟩ := h
  obtain ⟨hE, hL, hnE, hnL⟩ := h.short ok
  rw [h.has k, h.files, posF_ct]
  exact rf_find rb s fa pa fc pc lv E L k hk hE hnE w h
theorem exNil (w : World) : EX w ⟨[], none, 0, 0⟩ := ⟨World.ownsRow_nil _ _ _ _, rfl⟩
theorem RfRep.filesN {w : World} {rb : Nat} {s : FsS} {F : List Nat} (h : RfRep w rb s F) : ∃ a c, w.cell? ⟨rb, 1, none⟩ = some (.slice a s.files.length c) := by
  obtain ⟨fa, fc, pa, pc, lv, E, L, h, rfl⟩ := h
  refine ⟨fa, fc, ?_⟩
  rw [h.files, List.length_map]
  exact (rf_cells h.blk).2.1

theorem rf_new (rb : Nat) (s : FsS) (F : List Nat) (k : Bs) (hk : k.length ≤ maxLen) (w : World) (h : RfRep w rb s F) (ok : s.Ok) (hno : s.has k = false) :
    Calls Tryz.prog 26 #[.pointer (some ⟨rb, 0, none⟩), .agg #[.string ⟨k.toArray⟩, .slice none 0 0]] w fun e w' => e = .returned (.tuple #[]) ∧ RfTo w rb F { s with files := mput strL k [] s.files } w' := by
  obtain ⟨fa, fc, pa, pc, lv, E, L, h, rfl⟩ := h
  obtain ⟨hE, hL, hnE, hnL⟩ := h.short ok
  have hno' : mget k E = none := by
    rw [h.has k] at hno
    cases hg : mget k E with
    | none => rfl
    | some v => rw [hg] at hno; cases hno
  refine (rf_insert rb s fa pa fc pc lv E L k [] none 0 0 hk hE hnE w h (exNil w) ?_ hno').mono ?_
  · show (([] : List Nat) ++ ebs (E ++ L)).Nodup
    rw [List.nil_append]
    exact h.ex
  · rintro e w' ⟨rfl, hm⟩
    refine ⟨rfl, hm.to fun b hb => .inl ?_⟩
    have := (ebs_perm ((mput_perm (e := ⟨[], none, 0, 0⟩) hno').append_right L)).mem_iff.1 hb
    exact this

theorem rf_drop' (rb : Nat) (s : FsS) (F : List Nat) (k : Bs) (hk : k.length ≤ maxLen) (w : World) (h : RfRep w rb s F) (ok : s.Ok) :
    Calls Tryz.prog 69 #[.pointer (some ⟨rb, 0, none⟩), .string ⟨k.toArray⟩] w fun e w' => e = .returned (.tuple #[]) ∧ RfTo w rb F { s with files := mdel k s.files, waits := mdel k s.waits } w' := by
  obtain ⟨fa, fc, pa, pc, lv, E, L, h, rfl⟩ := h
  obtain ⟨hE, hL, hnE, hnL⟩ := h.short ok
  refine (rf_drop rb s fa pa fc pc lv E L k hk hE hL w h).mono ?_
  rintro e w' ⟨rfl, hm⟩
  exact ⟨rfl, hm.to fun b hb => .inl ((ebs_sub ((mdel_sub k E).append (mdel_sub k L))).subset hb)⟩
theorem RfTo.rest {w w' : World} {rb : Nat} {F : List Nat} {s : FsS} (h : RfRep w rb s F) (hb : Below w.heap.size w w') : RfTo w rb F s w' :=
  ⟨F, h.low hb, hb.os, hb.tape, hb.output, hb.size, fun b hb' _ => hb.block b hb', fun b hb' => .inl hb'⟩
theorem chg_of_below {w w' : World} {F : List Nat} (hb : Below w.heap.size w w') : Chg F F w w' := ⟨hb.os, hb.tape, hb.output, hb.size, fun b hb' _ => hb.block b hb', fun b hb' => .inl hb'⟩
theorem RfTo.after {w w1 w2 : World} {rb : Nat} {F : List Nat} {s' : FsS} (hb : Below w.heap.size w w1) (h : RfTo w1 rb F s' w2) : RfTo w rb F s' w2 := by
  obtain ⟨F2, h1, h2⟩ := h
  exact ⟨F2, h1, (chg_of_below hb).trans h2⟩
theorem went_has (s : FsS) (k : Bs) : s.went.has k = s.has k := by
  unfold FsS.has
  rw [(went_parts s).2.1]
set_option maxRecDepth 100000 in
set_option maxHeartbeats 1600000 in
theorem rf_Create (rb : Nat) (s : FsS) (F : List Nat) (k : Bs) (hk : k.length ≤ maxLen) (w : World) (h : RfRep w rb s F) (ok : s.Ok) :
    Calls Tryz.prog 10 #[.pointer (some ⟨rb, 0, none⟩), .string ⟨k.toArray⟩] w fun e w' => e = .returned (.int .i64 (fsCreate s k).1) ∧ RfTo w rb F (fsCreate s k).2 w' := by
  have H := hide h
  have OK := hide ok
  have HF := hide (rf_find' rb s F k hk w h ok)
  obtain ⟨hb, hhb⟩ : ∃ hb, hb = s.has k := ⟨_, rfl⟩
  obtain ⟨nb, hnb⟩ : ∃ nb, nb = named k := ⟨_, rfl⟩
  rw [← hhb] at HF
  have HHB := hide hhb; have HNB := hide hnb
  clear h ok hhb hnb
  cases nb with
  | false =>
    have e : fsCreate s k = (1, s) := by simp [fsCreate, ← HNB.out]
    rw [e]
    clear e
    go_enter Tryz.func10, Tryz.ntmps10
    go_wp2_with (first | (refine HF.out.mono ?_; rintro e w1 ⟨rfl, hb1⟩; have HB1 := hide hb1; clear hb1) | (refine (rf_named k hk _).mono ?_; rintro e w' ⟨rfl, rfl⟩; rw [← HNB.out]))
    go_ret
    exact ⟨rfl, RfTo.rest H.out HB1.out⟩
  | true =>
    cases hb with
    | true =>
      have e : fsCreate s k = (81, s) := by simp [fsCreate, ← HNB.out, ← HHB.out]
      rw [e]
      clear e
      go_enter Tryz.func10, Tryz.ntmps10
      go_wp2_with (first | (refine HF.out.mono ?_; rintro e w1 ⟨rfl, hb1⟩; have HB1 := hide hb1; clear hb1) | (refine (rf_named k hk _).mono ?_; rintro e w' ⟨rfl, rfl⟩; rw [← HNB.out]))
      go_ret
      exact ⟨rfl, RfTo.rest H.out HB1.out⟩
    | false =>
      obtain ⟨n, hn⟩ : ∃ n, n = s.files.length := ⟨_, rfl⟩
      have HN := hide hn
      have hcell : Hid (∀ w1, Below w.heap.size w w1 → ∃ a c, w1.cell? ⟨rb, 1, none⟩ = some (.slice a n c)) := hide fun w1 hb1 => by rw [hn]; exact (H.out.low hb1).filesN
      clear hn
      by_cases h8 : 8 ≤ n
      · have e : fsCreate s k = (3, s) := by simp [fsCreate, ← HNB.out, ← HHB.out, ← HN.out, h8]
        rw [e]
        have d8 : decide ((8 : Int) ≤ n) = true := decide_eq_true (by omega)
        clear e
        go_enter Tryz.func10, Tryz.ntmps10
        go_wp2_with (first | (refine HF.out.mono ?_; rintro e w1 ⟨rfl, hb1⟩; obtain ⟨a1, c1, f1⟩ := hcell.out w1 hb1; have HB1 := hide hb1; clear hb1) | (refine (rf_named k hk _).mono ?_; rintro e w' ⟨rfl, rfl⟩; rw [← HNB.out]))
        go_ret
        exact ⟨rfl, RfTo.rest H.out HB1.out⟩
      · have d8 : decide ((8 : Int) ≤ n) = false := decide_eq_false (by omega)
        obtain ⟨gb, hgb⟩ : ∃ gb, gb = s.go := ⟨_, rfl⟩
        have HGB := hide hgb
        clear hgb
        cases gb with
        | false =>
          have e : fsCreate s k = (0, s.went) := by simp [fsCreate, ← HNB.out, ← HHB.out, ← HN.out, h8, ← HGB.out]
          rw [e]
          clear e
          go_enter Tryz.func10, Tryz.ntmps10
          go_wp2_with (first | (refine HF.out.mono ?_; rintro e w1 ⟨rfl, hb1⟩; obtain ⟨a1, c1, f1⟩ := hcell.out w1 hb1; have HB1 := hide hb1; clear hb1) | (refine (rf_named k hk _).mono ?_; rintro e w' ⟨rfl, rfl⟩; rw [← HNB.out]) | (refine (rf_stopped rb s F _ (H.out.low HB1.out) OK.out).mono ?_; rintro e w2 ⟨rfl, ht⟩; rw [← HGB.out]; have HT := hide ht; clear ht))
          go_ret
          exact ⟨rfl, RfTo.after HB1.out HT.out⟩
        | true =>
          have e : fsCreate s k = (0, { s.went with files := mput strL k [] s.went.files }) := by simp [fsCreate, ← HNB.out, ← HHB.out, ← HN.out, h8, ← HGB.out, (went_parts s).2.1]
          rw [e]
          clear e
          go_enter Tryz.func10, Tryz.ntmps10
          go_wp2_with (first | (refine HF.out.mono ?_; rintro e w1 ⟨rfl, hb1⟩; obtain ⟨a1, c1, f1⟩ := hcell.out w1 hb1; have HB1 := hide hb1; clear hb1) | (refine (rf_named k hk _).mono ?_; rintro e w' ⟨rfl, rfl⟩; rw [← HNB.out]) | (refine (rf_stopped rb s F _ (H.out.low HB1.out) OK.out).mono ?_; rintro e w2 ⟨rfl, ht⟩; rw [← HGB.out]; obtain ⟨F2, hf2, hc2⟩ := ht; have HR2 := hide hf2; have HC2 := hide hc2; clear hf2 hc2) | (refine (rf_new rb s.went F2 k hk w2 HR2.out OK.out.went (by rw [went_has]; exact HHB.out.symm)).mono ?_; rintro e w3 ⟨rfl, ht⟩; have HT := hide ht; clear ht))
          go_ret
          obtain ⟨F3, h3, c3⟩ := HT.out
          exact ⟨rfl, RfTo.after HB1.out ⟨F3, h3, HC2.out.trans c3⟩⟩

set_option maxRecDepth 100000 in
set_option maxHeartbeats 1600000 in
theorem rf_Remove (rb : Nat) (s : FsS) (F : List Nat) (k : Bs) (hk : k.length ≤ maxLen) (w : World) (h : RfRep w rb s F) (ok : s.Ok) :
    Calls Tryz.prog 51 #[.pointer (some ⟨rb, 0, none⟩), .string ⟨k.toArray⟩] w fun e w' => e = .returned (.int .i64 (fsRemove s k).1) ∧ RfTo w rb F (fsRemove s k).2 w' := by
  have H := hide h
  have OK := hide ok
  have HF := hide (rf_find' rb s F k hk w h ok)
  obtain ⟨hb, hhb⟩ : ∃ hb, hb = s.has k := ⟨_, rfl⟩
  rw [← hhb] at HF
  have HHB := hide hhb
  clear h ok hhb
  cases hb with
  | false =>
    have e : fsRemove s k = (80, s) := by simp [fsRemove, ← HHB.out]
    rw [e]
    clear e
    go_enter Tryz.func51, Tryz.ntmps51
    go_wp2_with (refine HF.out.mono ?_; rintro e w1 ⟨rfl, hb1⟩; have HB1 := hide hb1; clear hb1)
    go_ret
    exact ⟨rfl, RfTo.rest H.out HB1.out⟩
  | true =>
    obtain ⟨gb, hgb⟩ : ∃ gb, gb = s.go := ⟨_, rfl⟩
    have HGB := hide hgb
    clear hgb
    cases gb with
    | false =>
      have e : fsRemove s k = (0, s.went) := by simp [fsRemove, ← HHB.out, ← HGB.out]
      rw [e]
      clear e
      go_enter Tryz.func51, Tryz.ntmps51
      go_wp2_with (first | (refine HF.out.mono ?_; rintro e w1 ⟨rfl, hb1⟩; have HB1 := hide hb1; clear hb1) | (refine (rf_stopped rb s F _ (H.out.low HB1.out) OK.out).mono ?_; rintro e w2 ⟨rfl, ht⟩; rw [← HGB.out]; have HT := hide ht; clear ht))
      go_ret
      exact ⟨rfl, RfTo.after HB1.out HT.out⟩
    | true =>
      have e : fsRemove s k = (0, { s.went with files := mdel k s.went.files, waits := mdel k s.went.waits }) := by simp [fsRemove, forgotten, mdel, ← HHB.out, ← HGB.out, (went_parts s).2.1, (went_parts s).2.2]
      rw [e]
      clear e
      go_enter Tryz.func51, Tryz.ntmps51
      go_wp2_with (first | (refine HF.out.mono ?_; rintro e w1 ⟨rfl, hb1⟩; have HB1 := hide hb1; clear hb1) | (refine (rf_stopped rb s F _ (H.out.low HB1.out) OK.out).mono ?_; rintro e w2 ⟨rfl, ht⟩; rw [← HGB.out]; obtain ⟨F2, hf2, hc2⟩ := ht; have HR2 := hide hf2; have HC2 := hide hc2; clear hf2 hc2) | (refine (rf_drop' rb s.went F2 k hk w2 HR2.out OK.out.went).mono ?_; rintro e w3 ⟨rfl, ht⟩; have HT := hide ht; clear ht))
      go_ret
      obtain ⟨F3, h3, c3⟩ := HT.out
      exact ⟨rfl, RfTo.after HB1.out ⟨F3, h3, HC2.out.trans c3⟩⟩
end Go.Proofs.YtglgjakjhkdoaaaGreatDoor
