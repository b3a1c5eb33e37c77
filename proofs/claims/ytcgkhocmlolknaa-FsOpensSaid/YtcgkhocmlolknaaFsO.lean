/-
  The chapter's example of a file system.
-/
import Derived.Test.YtcgkhocmlolknaaFsN
namespace Go.Proofs.Ytcgkhocmlolknaa
open Go.RowKit Go.Maps
set_option linter.unusedVariables false
set_option linter.unusedSimpArgs false

/-- a file system of the call's own -/
structure FsOwn (W w : World) (sb : Nat) (s : FsS) (F : List Nat) : Prop where
  rep : FsRep w sb s F
  up : ∀ k ∈ F, W.heap.size ≤ k
  low : Below W.heap.size W w
  ok : s.Ok
theorem FsOwn.step {W w w' : World} {sb : Nat} {s s' : FsS} {F : List Nat} (h : FsOwn W w sb s F) (ht : FsTo w sb F s' w') (ok : s'.Ok) : ∃ F', FsOwn W w' sb s' F' ∧ Chg F F' w w' := by
  obtain ⟨F', h1, h2⟩ := ht
  exact ⟨F', ⟨h1, h2.up h.low.size h.up, h.low.trans (h2.below h.low.size h.up), ok⟩, h2⟩
theorem FsOwn.then {W w w' : World} {sb : Nat} {s : FsS} {F : List Nat} (h : FsOwn W w sb s F) (hb : Below w.heap.size w w') : FsOwn W w' sb s F := ⟨h.rep.low hb, h.up, h.low.trans (hb.mono h.low.size), h.ok⟩
theorem fs_New' (room : Int) (h0 : 0 ≤ room) (h1 : room ≤ 1048576) (W w : World) (hb : Below W.heap.size W w) : Calls Try.prog 10 #[.int .i64 room] w fun e w' => ∃ sb F, e = .returned (.pointer (some ⟨sb, 0, none⟩)) ∧ FsOwn W w' sb (fsNew room) F ∧ (∀ k ∈ F, w.heap.size ≤ k) ∧ Below w.heap.size w w' := by
  refine (fs_New room h0 h1 w).mono ?_
  rintro e w' ⟨sb, F, rfl, h1', h2, h3⟩
  exact ⟨sb, F, rfl, ⟨h1', fun k hk => Nat.le_trans hb.size (h2 k hk), hb.trans (h3.mono hb.size), fsNew_ok h0 h1⟩, h2, h3⟩
/-- bytes that are written out -/
theorem rdB_lit (w : World) (b : Bs) (n : Nat) (cs : Array Value) (hn : n = b.length) (hcs : cs = (bcells b).toArray) (h0 : 0 < n) : RdB (w.alloc (.cells cs 5)) (.slice (some ⟨w.heap.size, 0, none⟩) n n) b := by
  subst hcs
  have h := rd_new w (bcells b).toArray 5 n 1 h0 (by simp [bcells, hn])
  unfold RdB
  rw [← hn]
  simpa using h
theorem rdK_lit (w : World) (K : List Bool) (n : Nat) (cs : Array Value) (hn : n = K.length) (hcs : cs = (K.map Value.bool).toArray) (h0 : 0 < n) : RdK (w.alloc (.cells cs 4)) (.slice (some ⟨w.heap.size, 0, none⟩) n n) K := by
  subst hcs
  have h := rd_new w (K.map Value.bool).toArray 4 n 1 h0 (by simp [hn])
  unfold RdK
  rw [← hn]
  simpa using h

set_option maxRecDepth 100000 in
set_option maxHeartbeats 3200000 in
theorem fs_known (W : World) : Calls Try.prog 6 #[] W fun e w' => e = .returned (.bool true) ∧ Below W.heap.size W w' := by
  have hk : ([97] : Bs).length ≤ maxLen := by decide
  go_enter Try.func6, Try.ntmps6
  go_wp2_with fail
  refine (fs_New' 100 (by omega) (by omega) W W (Below.refl _ _)).mono ?_
  rintro e w1 ⟨sb, F0, rfl, hf0, _, _⟩
  have H0 := hide hf0
  clear hf0
  go_wp2_with fail
  refine (fs_Create sb _ F0 [97] hk w1 H0.out.rep H0.out.ok).mono ?_
  rintro e w2 ⟨rfl, ht⟩
  obtain ⟨F1, hf1, -⟩ := H0.out.step ht (fsCreate_ok H0.out.ok [97])
  have H1 := hide hf1
  clear hf1 ht H0
  have hb1 := hide (below_alloc w2 (.cells #[.int .u8 1, .int .u8 2] 5))
  have hr1 := hide (rdB_lit w2 [1, 2] 2 #[.int .u8 1, .int .u8 2] rfl rfl (by decide))
  go_wp2_with fail
  refine (fs_Append sb _ F1 [97] hk _ 2 2 [1, 2] _ (H1.out.then hb1.out).rep H1.out.ok hr1.out rfl (by decide) (fun _ k hk hm => by have := H1.out.rep.lt k hm; simp [Value.ownBlock] at hk; omega)).mono ?_
  rintro e w3 ⟨rfl, ht⟩
  obtain ⟨F2, hf2, -⟩ := (H1.out.then hb1.out).step ht (fsAppend_ok H1.out.ok [97] [1, 2])
  have H2 := hide hf2
  clear hf2 ht H1 hb1 hr1
  go_wp2_with fail
  refine (fs_Sync sb _ F2 [97] hk _ H2.out.rep H2.out.ok).mono ?_
  rintro e w4 ⟨rfl, ht⟩
  obtain ⟨F3, hf3, -⟩ := H2.out.step ht (fsSync_ok H2.out.ok [97])
  have H3 := hide hf3
  clear hf3 ht H2
  have hb1 := hide (below_alloc w4 (.cells #[.int .u8 3] 5))
  have hr1 := hide (rdB_lit w4 [3] 1 #[.int .u8 3] rfl rfl (by decide))
  go_wp2_with fail
  refine (fs_Append sb _ F3 [97] hk _ 1 1 [3] _ (H3.out.then hb1.out).rep H3.out.ok hr1.out rfl (by decide) (fun _ k hk hm => by have := H3.out.rep.lt k hm; simp [Value.ownBlock] at hk; omega)).mono ?_
  rintro e w5 ⟨rfl, ht⟩
  obtain ⟨F4, hf4, -⟩ := (H3.out.then hb1.out).step ht (fsAppend_ok H3.out.ok [97] [3])
  have H4 := hide hf4
  clear hf4 ht H3 hb1 hr1
  have hb1 := hide (below_alloc w5 (.cells #[.int .u8 4, .int .u8 5] 5))
  have hr1 := hide (rdB_lit w5 [4, 5] 2 #[.int .u8 4, .int .u8 5] rfl rfl (by decide))
  go_wp2_with fail
  refine (fs_Append sb _ F4 [97] hk _ 2 2 [4, 5] _ (H4.out.then hb1.out).rep H4.out.ok hr1.out rfl (by decide) (fun _ k hk hm => by have := H4.out.rep.lt k hm; simp [Value.ownBlock] at hk; omega)).mono ?_
  rintro e w6 ⟨rfl, ht⟩
  obtain ⟨F5, hf5, -⟩ := (H4.out.then hb1.out).step ht (fsAppend_ok H4.out.ok [97] [4, 5])
  have H5 := hide hf5
  clear hf5 ht H4 hb1 hr1
  have hb1 := hide (below_alloc w6 (.cells #[.bool false, .bool true] 4))
  have hr1 := hide (rdK_lit w6 [false, true] 2 #[.bool false, .bool true] rfl rfl (by decide))
  go_wp2_with fail
  refine (fs_Crash sb _ F5 _ 2 2 1 [false, true] _ (H5.out.then hb1.out).rep H5.out.ok hr1.out rfl (by decide) (fun _ k hk hm => by have := H5.out.rep.lt k hm; simp [Value.ownBlock] at hk; omega) (by omega) (by omega)).mono ?_
  rintro e w7 ⟨rfl, ht⟩
  obtain ⟨F6, hf6, -⟩ := (H5.out.then hb1.out).step ht (fsCrash_ok H5.out.ok [false, true] 1)
  obtain ⟨s6, hs6⟩ : ∃ s6, s6 = fsCrash (fsAppend (fsAppend (fsSync (fsAppend (fsCreate (fsNew 100) [97]).2 [97] [1, 2]).2 [97]).2 [97] [3]).2 [97] [4, 5]).2 [false, true] 1 := ⟨_, rfl⟩
  rw [← hs6] at hf6
  have q1 : Hid (s6.has [97] = true) := hide (by rw [hs6]; decide)
  have q2 : Hid (s6.get [97] = [1, 2, 0, 4]) := hide (by rw [hs6]; decide)
  have q3 : Hid (s6.used = 4) := hide (by rw [hs6]; decide)
  have H6 := hide hf6
  clear hf6 ht H5 hb1 hr1 hs6
  go_wp2_with fail
  refine (fs_Read sb _ F6 [97] hk _ H6.out.rep H6.out.ok).mono ?_
  rintro e w8 hr
  unfold ReadTold at hr
  rw [q1.out, if_pos rfl, q2.out] at hr
  obtain ⟨a, n, c, rfl, hf⟩ := hr
  have hn4 : n = 4 := hf.2.1
  subst hn4
  have H7 := hide (H6.out.then hf.2.2)
  obtain ⟨bb, off, cc, he, hc, hlt⟩ := RdB.at hf.rd (k := 0) (by decide)
  simp only [Value.slice.injEq] at he
  obtain ⟨rfl, -⟩ := he
  obtain ⟨_, _, _, he, hc1, _⟩ := RdB.at hf.rd (k := 1) (by decide)
  simp only [Value.slice.injEq, Option.some.injEq, Addr.mk.injEq] at he
  obtain ⟨⟨rfl, rfl, -⟩, -⟩ := he
  obtain ⟨_, _, _, he, hc2, _⟩ := RdB.at hf.rd (k := 2) (by decide)
  simp only [Value.slice.injEq, Option.some.injEq, Addr.mk.injEq] at he
  obtain ⟨⟨rfl, rfl, -⟩, -⟩ := he
  obtain ⟨_, _, _, he, hc3, _⟩ := RdB.at hf.rd (k := 3) (by decide)
  simp only [Value.slice.injEq, Option.some.injEq, Addr.mk.injEq] at he
  obtain ⟨⟨rfl, rfl, -⟩, -⟩ := he
  simp at hc hc1 hc2 hc3
  clear hf
  go_wp2_with (refine (fs_Used sb s6 F6 w8 H7.out.rep H7.out.ok).mono ?_; rintro e w9 ⟨rfl, hb⟩; rw [q3.out]; have HB := hide hb; clear hb)
  go_ret
  exact ⟨rfl, H7.out.low.trans (HB.out.mono H7.out.low.size)⟩
end Go.Proofs.Ytcgkhocmlolknaa
