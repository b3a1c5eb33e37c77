/-
  The walks of a file system's Sync, Cut, Remove.
-/
import Derived.Test.YtglgjakjhkdoaaaDoorFsG
namespace Go.Proofs.YtglgjakjhkdoaaaDoor
open Go.RowKit Go.Maps
set_option linter.unusedVariables false
set_option linter.unusedSimpArgs false

/-- the map turns, behind other calls -/
theorem FsIn.mapChg {w0 w w' : World} {sb mb : Nat} {s s' : FsS} {wv : Value} {lp : Option Nat} {E E' L : List (Bs × Ent)} {F0 : List Nat} (h : FsIn w sb s mb wv lp E L) (hC : Chg F0 (fpOf (muts sb mb wv lp) (E ++ L)) w0 w) (hm : FsMap w' mb E') (hg : w.grownBy w' (some mb))
    (hr : s'.room = s.room) (hh : s'.halted = s.halted) (hl : s'.left = s.left) (hf : s'.files = E'.map ct) (hw : s'.waits = s.waits) (he : ∀ p ∈ E', p ∈ E ∨ (EntOk w (muts sb mb wv lp) p.2 ∧ ∀ k, p.2.v.ownBlock = some k → k ∈ F0 ∨ w0.heap.size ≤ k)) :
    FsTo w0 sb F0 s' w' := by
  have h' := h.mapTo hm hg hr hh hl hf hw fun p hp => (he p hp).imp id (·.1)
  have hmb : mb ∈ fpOf (muts sb mb wv lp) (E ++ L) := mem_fpOf.2 (.inl (by simp [muts]))
  refine ⟨_, ⟨mb, wv, lp, E', L, h', rfl⟩, hg.os.trans hC.os, hg.tape.trans hC.tape, hg.output.trans hC.output, Nat.le_trans hC.size hg.size, fun k hk hn => ?_, fun k hk => ?_⟩
  · rw [hg.block k (Nat.lt_of_lt_of_le hk hC.size) fun e => ?_, hC.block k hk hn]
    simp only [Option.some.injEq] at e
    have e2 : k = mb := by first | exact e | exact e.symm
    rw [e2] at hn hk
    rcases hC.fresh mb hmb with h1 | h1
    · exact hn h1
    · omega
  · rcases mem_fpOf.1 hk with hk | ⟨p, hp, hk⟩
    · exact hC.fresh k (mem_fpOf.2 (.inl hk))
    · rcases List.mem_append.1 hp with hp | hp
      · rcases he p hp with h2 | h2
        · exact hC.fresh k (mem_fpOf.2 (.inr ⟨p, List.mem_append_left _ h2, hk⟩))
        · exact h2.2 k hk
      · exact hC.fresh k (mem_fpOf.2 (.inr ⟨p, List.mem_append_right _ hp, hk⟩))
/-- bytes that Read made stay, while a call turns the receiver -/
theorem Fresh.stays {w w1 w2 : World} {F F2 : List Nat} {a : Option Addr} {n c : Nat} {b : Bs} (h : Fresh w w1 a n c b) (hF : ∀ k ∈ F, k < w.heap.size) (hC : Chg F F2 w1 w2) {M : List Nat} (hM : ∀ k ∈ M, k ∈ F2) :
    EntOk w2 M ⟨b, a, n, c⟩ ∧ ∀ k, (Value.slice a n c).ownBlock = some k → w.heap.size ≤ k := by
  have hb : ∀ k, (Value.slice a n c).ownBlock = some k → w2.heap[k]? = w1.heap[k]? := fun k hk => hC.block k (h.ge k hk).2 fun hm => by have := hF k hm; have := (h.ge k hk).1; omega
  refine ⟨⟨h.rd.keep hb, h.2.1, h.cap.1, h.cap.2, fun k hk => ⟨fun hm => ?_, Nat.lt_of_lt_of_le (h.ge k hk).2 hC.size⟩⟩, fun k hk => (h.ge k hk).1⟩
  have h1 := h.ge k hk
  rcases hC.fresh k (hM k hm) with h2 | h2
  · have := hF k h2; omega
  · omega

set_option maxRecDepth 100000 in
set_option maxHeartbeats 1600000 in
theorem fs_Sync (sb : Nat) (s : FsS) (F : List Nat) (k : Bs) (hk : k.length ≤ maxLen) (w : World) (h : FsRep w sb s F) (ok : s.Ok) :
    Calls Tryd.prog 32 #[.pointer (some ⟨sb, 0, none⟩), .string ⟨k.toArray⟩] w fun e w' => e = .returned (.int .u16 (fsSync s k).1) ∧ FsTo w sb F (fsSync s k).2 w' := by
  have H := hide h
  have OK := hide ok
  clear h ok
  cases hh : s.has k with
  | false =>
    have e : fsSync s k = (80, s) := by simp [fsSync, hh]
    rw [e]
    clear e
    go_enter Tryd.func32, Tryd.ntmps32
    go_wp2_with fail
    refine (fs_Read sb s F k hk w H.out OK.out).mono ?_
    rintro e w1 hr
    unfold ReadTold at hr
    rw [hh, if_neg (by simp)] at hr
    obtain ⟨rfl, rfl⟩ := hr
    go_wp2
    go_ret
    exact ⟨rfl, FsTo.refl H.out⟩
  | true =>
    cases hg : s.go with
    | false =>
      have e : fsSync s k = (0, s.went) := by simp [fsSync, hh, hg]
      rw [e]
      clear e
      go_enter Tryd.func32, Tryd.ntmps32
      go_wp2_with fail
      refine (fs_Read sb s F k hk w H.out OK.out).mono ?_
      rintro e w1 hr
      unfold ReadTold at hr
      rw [hh, if_pos rfl] at hr
      obtain ⟨a, n, c, rfl, hf⟩ := hr
      have HF := hide hf
      clear hf
      go_wp2_with fail
      refine (fs_goes sb s F w1 (H.out.low HF.out.2.2) OK.out.left0).mono ?_
      rintro e w2 ⟨rfl, ht⟩
      rw [hg]
      have HT := hide ht
      clear ht hg
      go_wp2
      go_ret
      obtain ⟨F2, hF2, hC2⟩ := HT.out
      exact ⟨rfl, F2, hF2, (Chg.of_below HF.out.2.2).trans hC2⟩
    | true =>
      have e : fsSync s k = (0, { s.went with files := mput strL k (s.get k) s.files, waits := forgotten k s.waits }) := by simp [fsSync, hh, hg]
      rw [e]
      obtain ⟨s3, hs3⟩ : ∃ s3, s3 = ({ s.went with files := mput strL k (s.get k) s.files } : FsS) := ⟨_, rfl⟩
      obtain ⟨e1, e2, e3⟩ := went_parts s
      have hs4 : ({ s.went with files := mput strL k (s.get k) s.files, waits := forgotten k s.waits } : FsS) = { s3 with waits := forgotten k s3.waits } := by rw [hs3, e3]
      rw [hs4]
      have HS3 := hide hs3
      have E2 := hide e2; have E3 := hide e3
      clear e hs4 hs3 e1 e2 e3
      go_enter Tryd.func32, Tryd.ntmps32
      go_wp2_with fail
      refine (fs_Read sb s F k hk w H.out OK.out).mono ?_
      rintro e w1 hr
      unfold ReadTold at hr
      rw [hh, if_pos rfl] at hr
      obtain ⟨a, n, c, rfl, hf⟩ := hr
      have HF := hide hf
      clear hf
      go_wp2_with fail
      refine (fs_goes sb s F w1 (H.out.low HF.out.2.2) OK.out.left0).mono ?_
      rintro e w2 ⟨rfl, ht⟩
      rw [hg]
      obtain ⟨F2, hr2, hC2⟩ := ht
      have HC2 := hide hC2
      obtain ⟨mb, wv, lp, E, L, h2, rfl⟩ := hr2
      obtain ⟨c0, c1, c2, c3, c4, fz⟩ := fs_cells h2.blk
      have hent := HF.out.stays H.out.lt hC2 (M := muts sb mb wv lp) fun k hk => mem_fpOf.2 (.inl hk)
      have hE1 : E.length < maxLen := by
        have h3 := files_len h2
        rw [E2.out] at h3
        have := OK.out.few
        unfold maxLen
        omega
      have H2 := hide h2
      have hm2 := hide h2.map
      have HENT := hide hent
      clear hC2 h2 c0 c2 c3 c4 fz hent hg
      go_wp2_with (at_mapUpdate; refine wpList_mput keysFs rfl _ _ _ 60 rfl 23 Tryd.underlying60 rfl hm2.out hE1 k rfl hk ⟨s.get k, a, n, c⟩ rfl rfl ?_; intro w3 hm3 hg3 hs4; have HM3 := hide hm3; have HG3 := hide hg3; clear hm3 hg3 hs4 c1)
      have h3 := H2.out.mapChg (s' := s3) ((Chg.of_below HF.out.2.2).trans HC2.out) HM3.out HG3.out (by rw [HS3.out]) (by rw [HS3.out]) (by rw [HS3.out]) (by rw [HS3.out, ← E2.out]; exact mput_files H2.out k ⟨s.get k, a, n, c⟩) (by rw [HS3.out]) (fun p hp => by
        rcases (mput_mem _ _ _ _ _).1 hp with rfl | hp
        · exact .inr ⟨HENT.out.1, fun k hk => .inr (HENT.out.2 k hk)⟩
        · exact .inl hp.1)
      obtain ⟨F3, hF3, hC3⟩ := h3
      have HC3 := hide hC3
      refine (fs_forget sb s3 F3 k w3 hF3 (by rw [HS3.out]; show s.went.waits.length ≤ 1048576; rw [E3.out]; exact OK.out.waits_le)).mono ?_
      rintro e w4 ⟨rfl, ht4⟩
      have HT4 := hide ht4
      clear ht4 hF3 hC3
      go_wp2
      go_ret
      obtain ⟨F4, hF4, hC4⟩ := HT4.out
      exact ⟨rfl, F4, hF4, HC3.out.trans hC4⟩

set_option maxRecDepth 100000 in
set_option maxHeartbeats 1600000 in
theorem fs_Remove (sb : Nat) (s : FsS) (F : List Nat) (k : Bs) (hk : k.length ≤ maxLen) (w : World) (h : FsRep w sb s F) (ok : s.Ok) :
    Calls Tryd.prog 39 #[.pointer (some ⟨sb, 0, none⟩), .string ⟨k.toArray⟩] w fun e w' => e = .returned (.int .u16 (fsRemove s k).1) ∧ FsTo w sb F (fsRemove s k).2 w' := by
  have H := hide h
  have OK := hide ok
  clear h ok
  cases hh : s.has k with
  | false =>
    have e : fsRemove s k = (80, s) := by simp [fsRemove, hh]
    rw [e]
    clear e
    go_enter Tryd.func39, Tryd.ntmps39
    go_wp2_with (refine (fs_there sb s F k hk _ H.out).mono ?_; rintro e w' ⟨rfl, rfl⟩; rw [hh])
    go_ret
    exact ⟨rfl, FsTo.refl H.out⟩
  | true =>
    cases hg : s.go with
    | false =>
      have e : fsRemove s k = (0, s.went) := by simp [fsRemove, hh, hg]
      rw [e]
      clear e
      go_enter Tryd.func39, Tryd.ntmps39
      go_wp2_with (refine (fs_there sb s F k hk _ H.out).mono ?_; rintro e w' ⟨rfl, rfl⟩; rw [hh])
      refine (fs_goes sb s F w H.out OK.out.left0).mono ?_
      rintro e w2 ⟨rfl, ht⟩
      rw [hg]
      have HT := hide ht
      clear ht hg
      go_wp2
      go_ret
      exact ⟨rfl, HT.out⟩
    | true =>
      have e : fsRemove s k = (0, { s.went with files := mdel k s.files, waits := forgotten k s.waits }) := by simp [fsRemove, hh, hg]
      rw [e]
      obtain ⟨s3, hs3⟩ : ∃ s3, s3 = ({ s.went with files := mdel k s.files } : FsS) := ⟨_, rfl⟩
      obtain ⟨e1, e2, e3⟩ := went_parts s
      have hs4 : ({ s.went with files := mdel k s.files, waits := forgotten k s.waits } : FsS) = { s3 with waits := forgotten k s3.waits } := by rw [hs3, e3]
      rw [hs4]
      have HS3 := hide hs3
      have E2 := hide e2; have E3 := hide e3
      clear e hs4 hs3 e1 e2 e3
      go_enter Tryd.func39, Tryd.ntmps39
      go_wp2_with (refine (fs_there sb s F k hk _ H.out).mono ?_; rintro e w' ⟨rfl, rfl⟩; rw [hh])
      refine (fs_goes sb s F w H.out OK.out.left0).mono ?_
      rintro e w2 ⟨rfl, ht⟩
      rw [hg]
      obtain ⟨F2, hr2, hC2⟩ := ht
      have HC2 := hide hC2
      obtain ⟨mb, wv, lp, E, L, h2, rfl⟩ := hr2
      obtain ⟨c0, c1, c2, c3, c4, fz⟩ := fs_cells h2.blk
      have H2 := hide h2
      have hm2 := hide h2.map
      clear hC2 h2 c0 c2 c3 c4 fz hg
      go_wp2_with (at_delete; refine wpList_mdel keysFs rfl _ _ 60 rfl 23 Tryd.underlying60 rfl hm2.out k rfl hk ?_; intro w3 hm3 hg3 hs4; have HM3 := hide hm3; have HG3 := hide hg3; clear hm3 hg3 hs4 c1)
      have h3 := H2.out.mapChg (s' := s3) HC2.out HM3.out HG3.out (by rw [HS3.out]) (by rw [HS3.out]) (by rw [HS3.out]) (by rw [HS3.out, ← E2.out]; exact mdel_files H2.out k) (by rw [HS3.out]) (fun p hp => .inl ((mdel_mem _ _ _).1 hp).1)
      obtain ⟨F3, hF3, hC3⟩ := h3
      have HC3 := hide hC3
      refine (fs_forget sb s3 F3 k w3 hF3 (by rw [HS3.out]; show s.went.waits.length ≤ 1048576; rw [E3.out]; exact OK.out.waits_le)).mono ?_
      rintro e w4 ⟨rfl, ht4⟩
      have HT4 := hide ht4
      clear ht4 hF3 hC3
      go_wp2
      go_ret
      obtain ⟨F4, hF4, hC4⟩ := HT4.out
      exact ⟨rfl, F4, hF4, HC3.out.trans hC4⟩
end Go.Proofs.YtglgjakjhkdoaaaDoor
