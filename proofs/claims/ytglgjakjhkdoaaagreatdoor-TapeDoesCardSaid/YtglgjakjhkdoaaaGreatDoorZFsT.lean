/-
  The walk of a file system's Rename.
-/
import Derived.Test.YtglgjakjhkdoaaaGreatDoorZFsS
namespace Go.Proofs.YtglgjakjhkdoaaaGreatDoor
open Go.RowKit Go.Maps
set_option linter.unusedVariables false
set_option linter.unusedSimpArgs false

def swapN (a b : Bs) (p : Bs × Ent) : Bs × Ent := if p.1 = a then (b, p.2) else p
theorem swap_snoc (a b : Bs) {L : List (Bs × Ent)} {i : Nat} (hi : i < L.length) : (L.take (i + 1)).map (swapN a b) ++ L.drop (i + 1) = ((L.take i).map (swapN a b) ++ L.drop i).set i (swapN a b L[i]) := by
  have h1 : ((L.take i).map (swapN a b)).length = i := by simp; omega
  have h2 : L.drop i = L[i] :: L.drop (i + 1) := List.drop_eq_getElem_cons hi
  rw [h2, List.set_append_right _ _ (by omega), h1, Nat.sub_self, List.set_cons_zero, List.take_add_one, List.getElem?_eq_getElem hi]
  simp only [List.map_append, Option.toList_some, List.map_cons, List.map_nil, List.append_assoc, List.singleton_append]
theorem swap_length (a b : Bs) (L : List (Bs × Ent)) (i : Nat) : ((L.take i).map (swapN a b) ++ L.drop i).length = L.length := by
  simp only [List.length_append, List.length_map, List.length_take, List.length_drop]
  omega
theorem swap_at (a b : Bs) {L : List (Bs × Ent)} {i : Nat} (hi : i < L.length) (h : i < ((L.take i).map (swapN a b) ++ L.drop i).length) : ((L.take i).map (swapN a b) ++ L.drop i)[i] = L[i] := by
  have h1 : ((L.take i).map (swapN a b)).length = i := by simp; omega
  rw [List.getElem_append_right (by omega)]
  simp only [h1, Nat.sub_self, List.getElem_drop, Nat.add_zero]
theorem swap_ct (a b : Bs) (L : List (Bs × Ent)) : (L.map (swapN a b)).map ct = (L.map ct).map fun p => if p.1 = a then (b, p.2) else p := by
  rw [List.map_map, List.map_map]
  apply List.map_congr_left
  intro p _
  unfold swapN ct
  by_cases e : p.1 = a <;> simp [e]

theorem FsIn.mapC {w0 w w' : World} {sb mb : Nat} {s s' : FsS} {wv : Value} {lp : Option Nat} {E E' L : List (Bs × Ent)} {F0 : List Nat} (h : FsIn w sb s mb wv lp E L) (hC : Chg F0 (fpOf (muts sb mb wv lp) (E ++ L)) w0 w) (hm : FsMap w' mb E') (hg : w.grownBy w' (some mb))
    (hr : s'.room = s.room) (hh : s'.halted = s.halted) (hl : s'.left = s.left) (hf : s'.files = E'.map ct) (hw : s'.waits = s.waits) (he : ∀ p ∈ E', p ∈ E ∨ (EntOk w (muts sb mb wv lp) p.2 ∧ ∀ k, p.2.v.ownBlock = some k → k ∈ F0 ∨ w0.heap.size ≤ k)) :
    FsIn w' sb s' mb wv lp E' L ∧ Chg F0 (fpOf (muts sb mb wv lp) (E' ++ L)) w0 w' := by
  have h' := h.mapTo hm hg hr hh hl hf hw fun p hp => (he p hp).imp id (·.1)
  have hmb : mb ∈ fpOf (muts sb mb wv lp) (E ++ L) := mem_fpOf.2 (.inl (by simp [muts]))
  refine ⟨h', hg.os.trans hC.os, hg.tape.trans hC.tape, hg.output.trans hC.output, Nat.le_trans hC.size hg.size, fun k hk hn => ?_, fun k hk => ?_⟩
  · rw [hg.block k (Nat.lt_of_lt_of_le hk hC.size) fun e => ?_, hC.block k hk hn]
    simp only [Option.some.injEq] at e
    have e2 : k = mb := by first | exact e | exact e.symm
    rw [e2] at hn hk
    rcases hC.fresh mb hmb with h1 | h1
    · exact hn h1
    · omega
  · rcases mem_fpOf.1 hk with hk | ⟨p, hp, hk⟩
    · exact hC.fresh k (mem_fpOf.2 (.inl hk))
    · rcases List.mem_append.1 hp with hp | hp
      · rcases he p hp with h2 | h2
        · exact hC.fresh k (mem_fpOf.2 (.inr ⟨p, List.mem_append_left _ h2, hk⟩))
        · exact h2.2 k hk
      · exact hC.fresh k (mem_fpOf.2 (.inr ⟨p, List.mem_append_right _ hp, hk⟩))
theorem FsIn.nameC {w0 w : World} {sb mb g n c : Nat} {s s' : FsS} {lp : Option Nat} {E L : List (Bs × Ent)} {F0 : List Nat} (h : FsIn w sb s mb (.slice (some ⟨g, 0, none⟩) n c) lp E L) (hC : Chg F0 (fpOf (muts sb mb (.slice (some ⟨g, 0, none⟩) n c) lp) (E ++ L)) w0 w) (hn : n = L.length) {i : Nat} (hi : i < L.length) (b : Bs) (hr : s'.room = s.room) (hh : s'.halted = s.halted) (hl : s'.left = s.left) (hf : s'.files = s.files)
    (hw : s'.waits = (L.set i (b, L[i].2)).map ct) : FsIn (w.setCell ⟨g, i * 2, none⟩ (.string ⟨b.toArray⟩)) sb s' mb (.slice (some ⟨g, 0, none⟩) n c) lp E (L.set i (b, L[i].2)) ∧ Chg F0 (fpOf (muts sb mb (.slice (some ⟨g, 0, none⟩) n c) lp) (E ++ L.set i (b, L[i].2))) w0 (w.setCell ⟨g, i * 2, none⟩ (.string ⟨b.toArray⟩)) := by
  subst hn
  have h1 := h.nameTo hi b hr hh hl hf hw
  rw [List.length_set] at h1
  refine ⟨h1, ?_⟩
  have hgm : g ∈ fpOf (muts sb mb (.slice (some ⟨g, 0, none⟩) L.length c) lp) (E ++ L) := mem_fpOf.2 (.inl (by simp [muts, Value.ownBlock]))
  refine hC.trans ⟨rfl, rfl, rfl, by simp [World.setCell], fun k hk hne => ?_, fun k hk => .inl ?_⟩
  · exact heap_set_ne fun e => hne (by rw [e]; exact hgm)
  · rcases mem_fpOf.1 hk with hk | ⟨p, hp, hk⟩
    · exact mem_fpOf.2 (.inl hk)
    · rcases List.mem_append.1 hp with hp | hp
      · exact mem_fpOf.2 (.inr ⟨p, List.mem_append_left _ hp, hk⟩)
      · rcases List.mem_or_eq_of_mem_set hp with hp | rfl
        · exact mem_fpOf.2 (.inr ⟨p, List.mem_append_right _ hp, hk⟩)
        · exact mem_fpOf.2 (.inr ⟨L[i], List.mem_append_right _ (List.getElem_mem hi), hk⟩)

set_option maxRecDepth 100000 in
set_option maxHeartbeats 1600000 in
theorem fs_Rename (sb : Nat) (s : FsS) (F : List Nat) (a b : Bs) (ha : a.length ≤ maxLen) (hb : b.length ≤ maxLen) (w : World) (h : FsRep w sb s F) (ok : s.Ok) :
    Calls Tryz.prog 71 #[.pointer (some ⟨sb, 0, none⟩), .string ⟨a.toArray⟩, .string ⟨b.toArray⟩] w fun e w' => e = .returned (.int .u16 (fsRename s a b).1) ∧ FsTo w sb F (fsRename s a b).2 w' := by
  have H := hide h
  have OK := hide ok
  clear h ok
  cases hh : s.has a with
  | false =>
    have e : fsRename s a b = (80, s) := by simp [fsRename, hh]
    rw [e]
    clear e
    go_enter Tryz.func71, Tryz.ntmps71
    go_wp2_with (refine (fs_there sb s _ a ha _ H.out).mono ?_; rintro e w' ⟨rfl, rfl⟩; rw [hh])
    go_ret
    exact ⟨rfl, FsTo.refl H.out⟩
  | true =>
    cases hn : named b with
    | false =>
      have e : fsRename s a b = (1, s) := by simp [fsRename, hh, hn]
      rw [e]
      clear e
      go_enter Tryz.func71, Tryz.ntmps71
      go_wp2_with (first | (refine (fs_there sb s _ a ha _ H.out).mono ?_; rintro e w' ⟨rfl, rfl⟩; rw [hh]) | (refine (fs_named b hb _).mono ?_; rintro e w' ⟨rfl, rfl⟩; rw [hn]))
      go_ret
      exact ⟨rfl, FsTo.refl H.out⟩
    | true =>
      by_cases hab : a = b
      · subst hab
        have e : fsRename s a a = (0, s) := by simp [fsRename, hh, hn]
        rw [e]
        clear e
        go_enter Tryz.func71, Tryz.ntmps71
        go_wp2_with (first | (refine (fs_there sb s _ a ha _ H.out).mono ?_; rintro e w' ⟨rfl, rfl⟩; rw [hh]) | (refine (fs_named a ha _).mono ?_; rintro e w' ⟨rfl, rfl⟩; rw [hn]))
        go_ret
        exact ⟨rfl, FsTo.refl H.out⟩
      · have hab2 : (a == b) = false := by simpa using hab
        cases hg : s.go with
        | false =>
          have e : fsRename s a b = (0, s.went) := by unfold fsRename; rw [if_neg (by simp [hh]), if_neg (by simp [hn]), if_neg hab, if_neg (by simp [hg])]
          rw [e]
          clear e
          go_enter Tryz.func71, Tryz.ntmps71
          go_wp2_with (first | (refine (fs_there sb s _ a ha _ H.out).mono ?_; rintro e w' ⟨rfl, rfl⟩; rw [hh]) | (refine (fs_named b hb _).mono ?_; rintro e w' ⟨rfl, rfl⟩; rw [hn]))
          refine (fs_goes sb s F w H.out OK.out.left0).mono ?_
          rintro e w2 ⟨rfl, ht⟩
          rw [hg]
          have HT := hide ht
          clear ht hg
          go_wp2
          go_ret
          exact ⟨rfl, HT.out⟩
        | true =>
          obtain ⟨e1, e2, e3⟩ := went_parts s
          obtain ⟨s3, hs3⟩ : ∃ s3, s3 = ({ s.went with waits := forgotten b s.waits } : FsS) := ⟨_, rfl⟩
          obtain ⟨s4, hs4⟩ : ∃ s4, s4 = ({ s3 with files := mput strL b ((mget a s.files).getD []) s.files } : FsS) := ⟨_, rfl⟩
          obtain ⟨s5, hs5⟩ : ∃ s5, s5 = ({ s4 with files := mdel a s4.files } : FsS) := ⟨_, rfl⟩
          have e : fsRename s a b = (0, { s5 with waits := s5.waits.map fun p => if p.1 = a then (b, p.2) else p }) := by
            unfold fsRename
            rw [if_neg (by simp [hh]), if_neg (by simp [hn]), if_neg hab, if_pos hg, hs5, hs4, hs3]
          rw [e]
          have HS3 := hide hs3; have HS4 := hide hs4; have HS5 := hide hs5
          have E2 := hide e2; have E3 := hide e3
          clear e hs3 hs4 hs5 e1 e2 e3
          go_enter Tryz.func71, Tryz.ntmps71
          go_wp2_with (first | (refine (fs_there sb s _ a ha _ H.out).mono ?_; rintro e w' ⟨rfl, rfl⟩; rw [hh]) | (refine (fs_named b hb _).mono ?_; rintro e w' ⟨rfl, rfl⟩; rw [hn]))
          refine (fs_goes sb s F w H.out OK.out.left0).mono ?_
          rintro e w2 ⟨rfl, ht⟩
          rw [hg]
          obtain ⟨F2, hr2, hC2⟩ := ht
          have HC2 := hide hC2
          have HR2 := hide hr2
          clear hr2 hC2 hg
          go_wp2_with fail
          refine (fs_forget sb s.went F2 b w2 HR2.out (by rw [E3.out]; exact OK.out.waits_le)).mono ?_
          rintro e w3 ⟨rfl, ht3⟩
          obtain ⟨F3, hr3, hC3⟩ := ht3
          have hs3' : ({ s.went with waits := forgotten b s.went.waits } : FsS) = s3 := by rw [HS3.out, E3.out]
          rw [hs3'] at hr3
          have HC3 := hide (HC2.out.trans hC3)
          clear hC3 hs3'
          obtain ⟨mb, wv, lp, E, L, h3, rfl⟩ := hr3
          obtain ⟨c0, c1, c2, c3, c4, fz⟩ := fs_cells h3.blk
          have hsb3 := (Array.getElem?_eq_some_iff.1 h3.blk).1
          have HC1 := hide c1
          have H3 := hide h3
          have hfl : Hid (s3.files = s.files) := hide (by rw [HS3.out]; exact E2.out)
          obtain ⟨en, hen⟩ : ∃ en, mget a E = some en := by
            have h1 : s.has a = (mget a E).isSome := by unfold FsS.has; rw [← hfl.out, mget_files h3, Option.isSome_map]
            rw [hh] at h1
            exact Option.isSome_iff_exists.1 h1.symm
          have hE1 : E.length < maxLen := by
            have h4 := files_len h3
            rw [hfl.out] at h4
            have := OK.out.few
            unfold maxLen
            omega
          have hensl := hide (h3.ent (a, en) (List.mem_append_left _ (mget_mem hen)))
          have hgb : Hid ((mget a s.files).getD [] = en.b) := hide (by rw [← hfl.out, mget_files h3, hen]; rfl)
          have HEN := hide hen
          have HMEM := hide (mget_mem hen)
          have hlk : Hid (∀ W, Below w3.heap.size w3 W → (Instr.lookup 55 (.map (some mb)) (.string ⟨a.toArray⟩) false).run Tryz.prog W = .ok (.slice en.a en.n en.c) W) := hide fun W hW =>
            run_mlook keysFs 55 22 Tryz.underlying55 (zero_bytes _) rfl (H3.out.map.low hW) a ha _ HEN.out _ rfl
          clear h3 c0 c1 c2 c3 c4 fz hen
          go_wp2_with fail
          refine wp_region_three 11 70 (by kernel_rfl) (by kernel_rfl) rfl (by kernel_rfl) (fun D v w' => Below w3.heap.size w3 w') (fun _ => undef) (Below.refl _ _).drew ?_
          simp only [List.take_succ_cons, List.take_zero, List.drop_succ_cons, List.drop_zero]
          iterate 11 (refine Hav3.read (e := ?_) (fun v => by rfl) (fun D v w h => h) (fun D v w' hD hS => ?_) ?_; rotate_left; (have x1 : w'.cell? ⟨sb, 1, none⟩ = some (.map (some mb)) := (hS.cell (p := ⟨sb, 1, none⟩) hsb3).trans HC1.out; have x2 := hlk.out w' hS; clear hS hD; first | (go_simp; done) | (go_simp; with_reducible rfl)); go_simp)
          refine Hav3.fin (fun v w4 hS => ?_)
          have HS := hide hS
          have hm4 := hide (H3.out.map.low hS)
          clear hS
          have hput : Hid (∀ w5, FsMap w5 mb (mput strL b en E) → w4.grownBy w5 (some mb) → FsIn w5 sb s4 mb wv lp (mput strL b en E) L ∧ Chg F (fpOf (muts sb mb wv lp) (mput strL b en E ++ L)) w w5) := hide fun w5 h1 h2 => by
            have g1 := H3.out.low HS.out
            have hf : s4.files = (mput strL b en E).map ct := by rw [HS4.out, hgb.out, ← hfl.out]; exact mput_files H3.out b en
            refine g1.mapC (HC3.out.trans (Chg.of_below HS.out)) h1 h2 (by rw [HS4.out]) (by rw [HS4.out]) (by rw [HS4.out]) hf (by rw [HS4.out]) fun p hp => ?_
            rcases (mput_mem _ _ _ _ _).1 hp with rfl | hp
            · refine .inr ⟨hensl.out.same (fun k hk => HS.out.block k (hensl.out.far k hk).2) HS.out.size, fun k hk => ?_⟩
              exact HC3.out.fresh k (mem_fpOf.2 (.inr ⟨(a, en), List.mem_append_left _ HMEM.out, hk⟩))
            · exact .inl hp.1
          go_wp2_with (first | (at_mapUpdate; refine wpList_mput keysFs rfl _ _ _ 55 rfl 22 Tryz.underlying55 rfl hm4.out hE1 b rfl hb en rfl rfl ?_; intro w5 hm5 hg5 hs5; have HP5 := hide (hput.out w5 hm5 hg5); have HM5 := hide hm5; have x5 := (fs_cells (hput.out w5 hm5 hg5).1.blk).2.1; clear hm5 hg5 hs5) | (at_delete; refine wpList_mdel keysFs rfl _ _ 55 rfl 22 Tryz.underlying55 rfl HM5.out a rfl ha ?_; intro w6 hm6 hg6 hs6; have HP6 := hide (HP5.out.1.mapC (s' := s5) HP5.out.2 hm6 hg6 (by rw [HS5.out]) (by rw [HS5.out]) (by rw [HS5.out]) (by rw [HS5.out]; exact mdel_files HP5.out.1 a) (by rw [HS5.out]) fun p hp => .inl ((mdel_mem _ _ _).1 hp).1); clear hm6 hg6 hs6; have x6 := (fs_cells HP6.out.1.blk).2.2.1; obtain ⟨wa, wc, rfl⟩ := (ownsRow_rd HP6.out.1.row).head))
          obtain ⟨n, hn⟩ : ∃ n, n = L.length := ⟨_, rfl⟩
          rw [← hn] at HP6 x6
          have hw5 : Hid (s5.waits = L.map ct) := hide HP6.out.1.waits
          have hll : Hid (n ≤ 1048576) := hide (by
            have h1 := OK.out.waits_le
            have h2 := congrArg List.length hw5.out
            have h3 : s5.waits.length ≤ s.waits.length := by
              rw [HS5.out, HS4.out, HS3.out]
              exact List.length_filter_le _ _
            rw [List.length_map] at h2
            omega)
          have HLN := hide hn
          clear hn hput
          rw [← HLN.out]
          go_wp2
          go_loopw [7, 48] (fun _ iv wr => ∃ (i : Nat), iv = .int .i64 i ∧ i ≤ n ∧ Hid (FsIn wr sb { s5 with waits := (((L.take i).map (swapN a b) ++ L.drop i)).map ct } mb (.slice wa n wc) lp (mdel a (mput strL b en E)) ((L.take i).map (swapN a b) ++ L.drop i) ∧ Chg F (fpOf (muts sb mb (.slice wa n wc) lp) (mdel a (mput strL b en E) ++ ((L.take i).map (swapN a b) ++ L.drop i))) w wr)) (fun _ iv _ => match iv with | .int _ j => n - j.toNat | _ => 0)
          case atStart =>
            refine ⟨0, rfl, Nat.zero_le _, hide ?_⟩
            have e1 : ({ s5 with waits := (((L.take 0).map (swapN a b) ++ L.drop 0)).map ct } : FsS) = s5 := by
              simp only [List.take_zero, List.map_nil, List.drop_zero, List.nil_append]
              rw [← hw5.out]
            rw [e1]
            simpa using HP6.out
          case round =>
            obtain ⟨i, rfl, hi, hr⟩ := hrel
            clear x6
            by_cases hin : i < n
            · have i0 : (i : Int) < n := by omega
              have hil : i < L.length := by rw [← HLN.out]; exact hin
              obtain ⟨M, hM⟩ : ∃ M, M = (L.take i).map (swapN a b) ++ L.drop i := ⟨_, rfl⟩
              rw [← hM] at hr
              have hMl : M.length = L.length := by rw [hM]; exact swap_length a b L i
              have hMi : M[i]'(by omega) = L[i] := by subst hM; exact swap_at a b hil _
              have hMs : (L.take (i + 1)).map (swapN a b) ++ L.drop (i + 1) = M.set i (swapN a b L[i]) := by rw [hM]; exact swap_snoc a b hil
              have hr1 := hr.out.1
              have hrn : ∃ m, m = M.length ∧ m = n := ⟨_, rfl, by rw [hMl]; exact HLN.out.symm⟩
              obtain ⟨m, hm1, hm2⟩ := hrn
              have hat : FsIn wr sb { s5 with waits := M.map ct } mb (.slice wa M.length wc) lp (mdel a (mput strL b en E)) M := by rw [← hm1, hm2]; exact hr1
              obtain ⟨g, pk, pb, pa, pn, pc, rfl, hpe, a1, a2, hg, hfz⟩ := hat.at (i := i) (by omega)
              have hle : L[i] = (pk, ⟨pb, pa, pn, pc⟩) := hMi.symm.trans hpe
              have r2 := (fs_cells hr1.blk).2.2.1
              have hw2 : IntKind.i64.wrap ((i : Int) + 1) = (i : Int) + 1 := wrap64 (by omega) (by have := hll.out; omega)
              have hend : Hid (∀ W, (pk ≠ a ∧ W = wr) ∨ (pk = a ∧ W = wr.setCell ⟨g, i * 2, none⟩ (.string ⟨b.toArray⟩)) → FsIn W sb { s5 with waits := (((L.take (i + 1)).map (swapN a b) ++ L.drop (i + 1))).map ct } mb (.slice (some ⟨g, 0, none⟩) n wc) lp (mdel a (mput strL b en E)) ((L.take (i + 1)).map (swapN a b) ++ L.drop (i + 1)) ∧ Chg F (fpOf (muts sb mb (.slice (some ⟨g, 0, none⟩) n wc) lp) (mdel a (mput strL b en E) ++ ((L.take (i + 1)).map (swapN a b) ++ L.drop (i + 1)))) w W) := hide fun W hW => by
                rw [hMs, hle]
                rcases hW with ⟨hne, rfl⟩ | ⟨rfl, rfl⟩
                · have e1 : swapN a b (pk, ⟨pb, pa, pn, pc⟩) = M[i]'(by omega) := by rw [hpe]; unfold swapN; rw [if_neg hne]
                  rw [e1, List.set_getElem_self]
                  exact hr.out
                · have e1 : swapN pk b (pk, ⟨pb, pa, pn, pc⟩) = (b, (M[i]'(by omega)).2) := by rw [hpe]; unfold swapN; rw [if_pos rfl]
                  rw [e1]
                  exact hr1.nameC hr.out.2 (by rw [← hm2, hm1]) (by omega) b rfl rfl rfl rfl rfl
              clear hpe hle hat hr hr1 hm1 hm2 hMs hMi hMl hM hil
              by_cases hpa : pk = a
              · subst hpa
                go_wp2
                refine ⟨⟨i + 1, rfl, hin, hide (hend.out _ (.inr ⟨rfl, rfl⟩))⟩, ?_⟩
                show n - ((i : Int) + 1).toNat < n - ((i : Nat) : Int).toNat
                omega
              · have hpa2 : (pk == a) = false := by simpa using hpa
                have HPA := hide hpa
                clear hpa
                go_wp2
                refine ⟨⟨i + 1, rfl, hin, hide (hend.out _ (.inl ⟨HPA.out, rfl⟩))⟩, ?_⟩
                show n - ((i : Int) + 1).toNat < n - ((i : Nat) : Int).toNat
                omega
            · obtain rfl : i = n := by omega
              have hend : FsTo w sb F { s5 with waits := s5.waits.map fun p => if p.1 = a then (b, p.2) else p } wr := by
                have h1 := hr.out
                rw [HLN.out, List.take_length, List.drop_length, List.append_nil, swap_ct, ← hw5.out] at h1
                exact ⟨_, ⟨_, _, _, _, _, h1.1, rfl⟩, h1.2⟩
              have HE := hide hend
              clear hend hr
              go_wp2
              go_ret
              exact ⟨rfl, HE.out⟩
end Go.Proofs.YtglgjakjhkdoaaaGreatDoor
