/-
  The walk of a file system's Create; what a store into the map leaves.
-/
import Derived.Test.YtglgjakjhkdoaaaGreatDoorZFsBFsC
namespace Go.Proofs.YtglgjakjhkdoaaaGreatDoor
open Go.RowKit Go.Maps
set_option linter.unusedVariables false
set_option linter.unusedSimpArgs false

theorem FsTo.then {w w1 w2 : World} {sb : Nat} {F : List Nat} {s s' : FsS} (h : FsTo w sb F s w1) (k : ∀ F1, FsRep w1 sb s F1 → FsTo w1 sb F1 s' w2) : FsTo w sb F s' w2 := by
  obtain ⟨F1, h1, h2⟩ := h
  obtain ⟨F2, h3, h4⟩ := k F1 h1
  exact ⟨F2, h3, h2.trans h4⟩
theorem FsIn.mapTo {w w' : World} {sb mb : Nat} {s s' : FsS} {wv : Value} {lp : Option Nat} {E E' L : List (Bs × Ent)} (h : FsIn w sb s mb wv lp E L) (hm : FsMap w' mb E') (hg : w.grownBy w' (some mb))
    (hr : s'.room = s.room) (hh : s'.halted = s.halted) (hl : s'.left = s.left) (hf : s'.files = E'.map ct) (hw : s'.waits = s.waits) (he : ∀ p ∈ E', p ∈ E ∨ EntOk w (muts sb mb wv lp) p.2) : FsIn w' sb s' mb wv lp E' L := by
  obtain ⟨n1, n2, n3⟩ := h.ne
  have hb : ∀ k, k < w.heap.size → k ≠ mb → w'.heap[k]? = w.heap[k]? := fun k hk hn => hg.block k hk fun e => hn (by simp only [Option.some.injEq] at e; first | exact e | exact e.symm)
  have hlt := h.mut_lt
  refine ⟨?_, hm, ownsRow_same h.row fun b hb' => hb b (h.row.lt b hb').2 (n2 b hb').2, ?_, hf, hw.trans h.waits, fun p hp => ?_, h.nd⟩
  · rw [hb sb (hlt sb (by simp [muts])) (Ne.symm n1), hr, hh]
    exact h.blk
  · rw [hl]
    exact h.left.same fun b hb' => hb b (hlt b (by simp [muts, hb'])) (n3 b hb').2.1
  · have h1 : EntOk w (muts sb mb wv lp) p.2 := by
      rcases List.mem_append.1 hp with hp | hp
      · rcases he p hp with h2 | h2
        · exact h.ent p (List.mem_append_left _ h2)
        · exact h2
      · exact h.ent p (List.mem_append_right _ hp)
    exact h1.same (fun k hk => hb k (h1.far k hk).2 fun e => (h1.far k hk).1 (by simp [muts, e])) hg.size
theorem FsIn.mapDone {w0 w w' : World} {sb mb : Nat} {s s' : FsS} {wv : Value} {lp : Option Nat} {E E' L : List (Bs × Ent)} (h : FsIn w sb s mb wv lp E L) (hm : FsMap w' mb E') (hg : w.grownBy w' (some mb))
    (hr : s'.room = s.room) (hh : s'.halted = s.halted) (hl : s'.left = s.left) (hf : s'.files = E'.map ct) (hw : s'.waits = s.waits) (he : ∀ p ∈ E', p ∈ E ∨ (EntOk w (muts sb mb wv lp) p.2 ∧ ∀ k, p.2.v.ownBlock = some k → w0.heap.size ≤ k))
    (h0 : FsIn w0 sb s mb wv lp E L) (hb0 : Below w0.heap.size w0 w) : FsTo w0 sb (fpOf (muts sb mb wv lp) (E ++ L)) s' w' := by
  have h' := h.mapTo hm hg hr hh hl hf hw fun p hp => (he p hp).imp id (·.1)
  refine h0.to h' (hg.os.trans hb0.os) (hg.tape.trans hb0.tape) (hg.output.trans hb0.output) (Nat.le_trans hb0.size hg.size) (fun k hk hn => ?_) (fun k hk => .inl hk) fun p hp k hk => ?_
  · rw [hg.block k (Nat.lt_of_lt_of_le hk hb0.size) fun e => hn (by simp only [Option.some.injEq] at e; simp [muts, e]), hb0.block k hk]
  · rcases List.mem_append.1 hp with hp | hp
    · rcases he p hp with h2 | h2
      · exact .inl ⟨p, List.mem_append_left _ h2, hk⟩
      · exact .inr (h2.2 k hk)
    · exact .inl ⟨p, List.mem_append_right _ hp, hk⟩
theorem entNil (w : World) (M : List Nat) : EntOk w M ⟨[], none, 0, 0⟩ := ⟨RdB.nil w, rfl, Nat.le_refl _, by decide, fun k hk => by cases hk⟩
theorem files_len {w : World} {sb mb : Nat} {s : FsS} {wv : Value} {lp : Option Nat} {E L : List (Bs × Ent)} (h : FsIn w sb s mb wv lp E L) : s.files.length = E.length := by rw [h.files, List.length_map]
theorem mput_files {w : World} {sb mb : Nat} {s : FsS} {wv : Value} {lp : Option Nat} {E L : List (Bs × Ent)} (h : FsIn w sb s mb wv lp E L) (k : Bs) (e : Ent) : mput strL k e.b s.files = (mput strL k e E).map ct := by
  rw [h.files]
  exact (mput_ct strL Ent.b k e E).symm
theorem mdel_files {w : World} {sb mb : Nat} {s : FsS} {wv : Value} {lp : Option Nat} {E L : List (Bs × Ent)} (h : FsIn w sb s mb wv lp E L) (k : Bs) : mdel k s.files = (mdel k E).map ct := by
  rw [h.files]
  exact (mdel_ct Ent.b k E).symm
theorem mget_files {w : World} {sb mb : Nat} {s : FsS} {wv : Value} {lp : Option Nat} {E L : List (Bs × Ent)} (h : FsIn w sb s mb wv lp E L) (k : Bs) : mget k s.files = (mget k E).map Ent.b := by
  rw [h.files]
  exact mget_ct Ent.b k E

set_option maxRecDepth 100000 in
set_option maxHeartbeats 1600000 in
theorem fs_Create (sb : Nat) (s : FsS) (F : List Nat) (k : Bs) (hk : k.length ≤ maxLen) (w : World) (h : FsRep w sb s F) (ok : s.Ok) :
    Calls Tryz.prog 8 #[.pointer (some ⟨sb, 0, none⟩), .string ⟨k.toArray⟩] w fun e w' => e = .returned (.int .u16 (fsCreate s k).1) ∧ FsTo w sb F (fsCreate s k).2 w' := by
  have H := hide h
  have OK := hide ok
  clear h ok
  cases hn : named k with
  | false =>
    have e : fsCreate s k = (1, s) := by simp [fsCreate, hn]
    rw [e]
    clear e
    go_enter Tryz.func8, Tryz.ntmps8
    go_wp2_with (refine (fs_named k hk _).mono ?_; rintro e w' ⟨rfl, rfl⟩; rw [hn])
    go_ret
    exact ⟨rfl, FsTo.refl H.out⟩
  | true =>
    cases hh : s.has k with
    | true =>
      have e : fsCreate s k = (81, s) := by simp [fsCreate, hn, hh]
      rw [e]
      clear e
      go_enter Tryz.func8, Tryz.ntmps8
      go_wp2_with (first | (refine (fs_named k hk _).mono ?_; rintro e w' ⟨rfl, rfl⟩; rw [hn]) | (refine (fs_there sb s F k hk _ H.out).mono ?_; rintro e w' ⟨rfl, rfl⟩; rw [hh]))
      go_ret
      exact ⟨rfl, FsTo.refl H.out⟩
    | false =>
      have H' := H.out
      obtain ⟨mb, wv, lp, E, L, h, rfl⟩ := H'
      obtain ⟨c0, c1, c2, c3, c4, fz⟩ := fs_cells h.blk
      have hm := hide h.map
      have hlen : Hid (s.files.length = E.length) := hide (files_len h)
      clear h c0 c2 c3 c4 fz
      by_cases hf : 8 ≤ E.length
      · have e : fsCreate s k = (3, s) := by simp [fsCreate, hn, hh, hlen.out, hf]
        rw [e]
        have i0 : decide ((8 : Int) ≤ E.length) = true := decide_eq_true (by omega)
        clear e
        go_enter Tryz.func8, Tryz.ntmps8
        go_wp2_with (first | (refine (fs_named k hk _).mono ?_; rintro e w' ⟨rfl, rfl⟩; rw [hn]) | (refine (fs_there sb s _ k hk _ H.out).mono ?_; rintro e w' ⟨rfl, rfl⟩; rw [hh]) | (at_len; refine wpList_mlen keysFs rfl _ 55 rfl 22 Tryz.underlying55 rfl hm.out ?_))
        go_ret
        exact ⟨rfl, FsTo.refl H.out⟩
      · have i0 : decide ((8 : Int) ≤ E.length) = false := decide_eq_false (by omega)
        cases hg : s.go with
        | false =>
          have e : fsCreate s k = (0, s.went) := by simp [fsCreate, hn, hh, hlen.out, hf, hg]
          rw [e]
          clear e hf
          go_enter Tryz.func8, Tryz.ntmps8
          go_wp2_with (first | (refine (fs_named k hk _).mono ?_; rintro e w' ⟨rfl, rfl⟩; rw [hn]) | (refine (fs_there sb s _ k hk _ H.out).mono ?_; rintro e w' ⟨rfl, rfl⟩; rw [hh]) | (at_len; refine wpList_mlen keysFs rfl _ 55 rfl 22 Tryz.underlying55 rfl hm.out ?_))
          refine (fs_goes sb s _ _ H.out OK.out.left0).mono ?_
          rintro e w1 ⟨rfl, ht⟩
          rw [hg]
          have HT := hide ht
          clear ht hg hlen
          go_wp2
          go_ret
          exact ⟨rfl, HT.out⟩
        | true =>
          have e : fsCreate s k = (0, { s.went with files := mput strL k [] s.files }) := by simp [fsCreate, hn, hh, hlen.out, hf, hg]
          rw [e]
          obtain ⟨s', hs'⟩ : ∃ s', s' = ({ s.went with files := mput strL k [] s.files } : FsS) := ⟨_, rfl⟩
          rw [← hs']
          have HS := hide hs'
          clear e hf hs'
          go_enter Tryz.func8, Tryz.ntmps8
          go_wp2_with (first | (refine (fs_named k hk _).mono ?_; rintro e w' ⟨rfl, rfl⟩; rw [hn]) | (refine (fs_there sb s _ k hk _ H.out).mono ?_; rintro e w' ⟨rfl, rfl⟩; rw [hh]) | (at_len; refine wpList_mlen keysFs rfl _ 55 rfl 22 Tryz.underlying55 rfl hm.out ?_))
          refine (fs_goes sb s _ _ H.out OK.out.left0).mono ?_
          rintro e w1 ⟨rfl, ht⟩
          rw [hg]
          obtain ⟨e1, e2, e3⟩ := went_parts s
          obtain ⟨F1, hr1, hch1⟩ := ht
          have HC := hide hch1
          obtain ⟨mb1, wv1, lp1, E1, L1, h1, rfl⟩ := hr1
          obtain ⟨c0, c1', c2, c3, c4, fz⟩ := fs_cells h1.blk
          have hm1 := hide h1.map
          have H1 := hide h1
          have E2 := hide e2
          have hE1 : E1.length < maxLen := by
            have h2 := files_len h1
            rw [e2] at h2
            have := hlen.out
            have := OK.out.few
            unfold maxLen
            omega
          clear c1 h1 c0 c2 c3 c4 fz hch1 hg hlen hm e1 e2 e3
          go_wp2_with (at_mapUpdate; refine wpList_mput keysFs rfl _ _ _ 55 rfl 22 Tryz.underlying55 rfl hm1.out hE1 k rfl hk ⟨[], none, 0, 0⟩ rfl rfl ?_; intro w2 hm2 hg2 hs2; have HM2 := hide hm2; have HG2 := hide hg2; clear hm2 hg2 hs2)
          go_ret
          refine ⟨rfl, ?_⟩
          obtain ⟨F2, hF2, hC2⟩ := H1.out.mapDone (w0 := w1) (s' := s') HM2.out HG2.out (by rw [HS.out]) (by rw [HS.out]) (by rw [HS.out]) (by rw [HS.out, ← mput_files H1.out, E2.out]) (by rw [HS.out]) (fun p hp => by
            rcases (mput_mem _ _ _ _ _).1 hp with rfl | hp
            · exact .inr ⟨entNil _ _, fun k hk => by cases hk⟩
            · exact .inl hp.1) H1.out (Below.refl _ _)
          exact ⟨F2, hF2, HC.out.trans hC2⟩
end Go.Proofs.YtglgjakjhkdoaaaGreatDoor
