/-
  Walks over the small functions of a file system.
-/
import Derived.Test.YtglgjakjhkdoaaaDoorFsA
import Derived.BigQuiet
namespace Go.Proofs.YtglgjakjhkdoaaaDoor
open Go.RowKit Go.Maps
set_option linter.unusedVariables false
set_option linter.unusedSimpArgs false

theorem zero_bytes (w : World) : (zeroValue 23).run Tryd.prog w = .ok (.slice none 0 0) w := by kernel_rfl

theorem fs_named (k : Bs) (hk : k.length ≤ maxLen) (w : World) : Calls Tryd.prog 40 #[.string ⟨k.toArray⟩] w fun e w' => e = .returned (.bool (named k)) ∧ w = w' := by
  by_cases h0 : k.length = 0
  · have : k = [] := List.eq_nil_of_length_eq_zero h0
    subst this
    go_enter Tryd.func40, Tryd.ntmps40
    go_wp2
    go_ret
    exact ⟨rfl, rfl⟩
  · have i0 : 0 < k.length := by omega
    have i1 : (0 : Int) < k.length := by omega
    by_cases h1 : k.length ≤ 16
    · have i2 : (k.length : Int) ≤ 16 := by omega
      have hn : named k = true := by simp [named]; omega
      rw [hn]
      go_enter Tryd.func40, Tryd.ntmps40
      go_wp2
      go_ret
      simp
    · have i2 : ¬ (k.length : Int) ≤ 16 := by omega
      have hn : named k = false := by simp [named]; omega
      rw [hn]
      go_enter Tryd.func40, Tryd.ntmps40
      go_wp2
      go_ret
      simp

theorem fs_there (sb : Nat) (s : FsS) (F : List Nat) (k : Bs) (hk : k.length ≤ maxLen) (w : World) (h : FsRep w sb s F) :
    Calls Tryd.prog 35 #[.pointer (some ⟨sb, 0, none⟩), .string ⟨k.toArray⟩] w fun e w' => e = .returned (.bool (s.has k)) ∧ w = w' := by
  obtain ⟨mb, wv, lp, E, L, h, rfl⟩ := h
  obtain ⟨c0, c1, c2, c3, c4, fz⟩ := fs_cells h.blk
  have hm := hide h.map
  have hh : Hid (s.has k = (mget k E).isSome) := hide (by
    unfold FsS.has
    rw [h.files, show E.map ct = E.map (fun p => (p.1, Ent.b p.2)) from rfl, mget_ct, Option.isSome_map])
  rw [hh.out]
  clear h c0 c2 c3 c4 fz hh
  cases hg : mget k E with
  | none =>
    have HG := hide hg
    clear hg
    go_enter Tryd.func35, Tryd.ntmps35
    go_wp2_with (at_lookup; refine wpList_mlook_ok keysFs rfl _ _ 60 rfl 23 Tryd.underlying60 (zero_bytes _) rfl rfl hm.out k rfl hk none HG.out (.slice none 0 0) rfl false rfl ?_)
    go_ret
    exact ⟨rfl, rfl⟩
  | some e =>
    have HG := hide hg
    clear hg
    go_enter Tryd.func35, Tryd.ntmps35
    go_wp2_with (at_lookup; refine wpList_mlook_ok keysFs rfl _ _ 60 rfl 23 Tryd.underlying60 (zero_bytes _) rfl rfl hm.out k rfl hk (some e) HG.out (.slice e.a e.n e.c) rfl true rfl ?_)
    go_ret
    exact ⟨rfl, rfl⟩

theorem FsIn.ne {w : World} {sb mb : Nat} {s : FsS} {wv : Value} {lp : Option Nat} {E L : List (Bs × Ent)} (h : FsIn w sb s mb wv lp E L) :
    mb ≠ sb ∧ (∀ k, wv.ownBlock = some k → k ≠ sb ∧ k ≠ mb) ∧ (∀ k, lp = some k → k ≠ sb ∧ k ≠ mb ∧ wv.ownBlock ≠ some k) := by
  have h1 := h.nd
  unfold muts at h1
  simp only [List.nodup_cons, List.mem_cons, List.mem_append, Option.mem_toList, not_or, List.nodup_append] at h1
  obtain ⟨⟨a1, a2, a3⟩, ⟨a4, a5⟩, a6, a7, a8⟩ := h1
  refine ⟨Ne.symm a1, fun k hk => ⟨fun e => a2 (by rw [← e]; exact hk), fun e => a4 (by rw [← e]; exact hk)⟩, fun k hk => ⟨fun e => a3 (by rw [← e]; exact hk), fun e => a5 (by rw [← e]; exact hk), fun e => ?_⟩⟩
  exact a8 k (by simp [e]) k (by simp [hk]) rfl
/-- the receiver's own cells turn -/
theorem FsIn.self {w w' : World} {sb mb : Nat} {s s' : FsS} {wv : Value} {lp : Option Nat} {E L : List (Bs × Ent)} (h : FsIn w sb s mb wv lp E L)
    (hblk : w'.heap[sb]? = some (.cells #[.int .i64 s'.room, .map (some mb), wv, .pointer (lp.map fun b => ⟨b, 0, none⟩), .bool s'.halted] 64 (0, 0))) (hf : s'.files = s.files) (hw : s'.waits = s.waits) (hl : s'.left = s.left)
    (ho : ∀ k, k ≠ sb → w'.heap[k]? = w.heap[k]?) (hs : w.heap.size ≤ w'.heap.size) : FsIn w' sb s' mb wv lp E L := by
  obtain ⟨n1, n2, n3⟩ := h.ne
  refine ⟨hblk, h.map.same (ho mb n1), ownsRow_same h.row fun b hb => ho b (n2 b hb).1, hl ▸ h.left.same fun b hb => ho b (n3 b hb).1, hf.trans h.files, hw.trans h.waits, fun p hp => (h.ent p hp).same (fun k hk => ho k fun e => ?_) hs, h.nd⟩
  have := ((h.ent p hp).far k hk).1
  exact this (by simp [muts, e])
theorem FsIn.leftTo {w w' : World} {sb mb lb : Nat} {s s' : FsS} {wv : Value} {E L : List (Bs × Ent)} {n' : Int} (h : FsIn w sb s mb wv (some lb) E L)
    (hblk : w'.heap[lb]? = some (.cells #[.int .i64 n'] 3 (0, 0))) (hr : s'.room = s.room) (hh : s'.halted = s.halted) (hf : s'.files = s.files) (hw : s'.waits = s.waits) (hl : s'.left = some n')
    (ho : ∀ k, k ≠ lb → w'.heap[k]? = w.heap[k]?) (hs : w.heap.size ≤ w'.heap.size) : FsIn w' sb s' mb wv (some lb) E L := by
  obtain ⟨n1, n2, n3⟩ := h.ne
  obtain ⟨n4, n5, n6⟩ := n3 lb rfl
  refine ⟨?_, h.map.same (ho mb (Ne.symm n5)), ownsRow_same h.row fun b hb => ho b fun e => n6 (by rw [← e]; exact hb), ?_, hf.trans h.files, hw.trans h.waits, fun p hp => (h.ent p hp).same (fun k hk => ho k fun e => ?_) hs, h.nd⟩
  · rw [ho sb (Ne.symm n4), hr, hh]; exact h.blk
  · rw [hl]; exact hblk
  · have := ((h.ent p hp).far k hk).1
    exact this (by simp [muts, e])
theorem FsTo.refl {w : World} {sb : Nat} {s : FsS} {F : List Nat} (h : FsRep w sb s F) : FsTo w sb F s w := ⟨F, h, Chg.refl F w⟩

theorem fs_goes (sb : Nat) (s : FsS) (F : List Nat) (w : World) (h : FsRep w sb s F) (hl : ∀ n, s.left = some n → 0 ≤ n ∧ n ≤ 9223372036854775807) :
    Calls Tryd.prog 41 #[.pointer (some ⟨sb, 0, none⟩)] w fun e w' => e = .returned (.bool s.go) ∧ FsTo w sb F s.went w' := by
  have hrep := hide h
  obtain ⟨mb, wv, lp, E, L, h, rfl⟩ := h
  obtain ⟨c0, c1, c2, c3, c4, fz⟩ := fs_cells h.blk
  have f4 := fz 4
  have hsb := (Array.getElem?_eq_some_iff.1 h.blk).1
  have H := hide h
  rcases h.left.cases with ⟨rfl, h2⟩ | ⟨lb, n, rfl, h2, h3⟩
  · have e1 : s.go = true := by simp [FsS.go, h2]
    have e2 : s.went = s := by simp [FsS.went, h2]
    rw [e1, e2]
    clear h c0 c1 c2 c4 fz h2 e1 e2
    go_enter Tryd.func41, Tryd.ntmps41
    go_wp2
    go_ret
    exact ⟨rfl, FsTo.refl hrep.out⟩
  · have hn := hl n h2
    obtain ⟨d0, g0, hlb⟩ := heapCell h3
    by_cases hz : n = 0
    · subst hz
      have e1 : s.go = false := by simp [FsS.go, h2]
      have e2 : s.went = { s with halted := true } := by simp [FsS.went, h2]
      rw [e1, e2]
      have H2 := hide h2
      clear h c0 c1 c2 fz h2 h3 e1 e2
      go_enter Tryd.func41, Tryd.ntmps41
      go_wp2
      go_ret
      refine ⟨rfl, H.out.to (H.out.self (s' := { s with halted := true }) ?_ rfl rfl rfl (fun k hk => heap_set_ne hk) (by simp [World.setCell])) rfl rfl rfl (by simp [World.setCell]) (fun k hk hm => heap_set_ne fun e => hm (by simp [muts, e])) (fun k hk => .inl hk) (fun p hp k hk => .inl ⟨p, hp, hk⟩)⟩
      have := setCell_heap H.out.blk 4 (.bool true)
      simpa using this
    · have e1 : s.go = true := by simp [FsS.go, h2, hz]
      have e2 : s.went = { s with left := some (n - 1) } := by simp [FsS.went, h2, hz]
      rw [e1, e2]
      have H2 := hide h2
      have i0 : (n == 0) = false := by simpa using hz
      have i1 : IntKind.i64.wrap (n - 1) = n - 1 := by
        unfold IntKind.wrap
        simp [IntKind.bits, IntKind.signed]
        omega
      have H3 := hide h3
      clear h c0 c1 c2 c4 fz h2 h3 e1 e2
      go_enter Tryd.func41, Tryd.ntmps41
      go_wp2
      go_ret
      refine ⟨rfl, H.out.to (H.out.leftTo (s' := { s with left := some (n - 1) }) (n' := n - 1) ?_ rfl rfl rfl rfl rfl (fun k hk => heap_set_ne hk) (by simp [World.setCell])) rfl rfl rfl (by simp [World.setCell]) (fun k hk hm => heap_set_ne fun e => hm (by simp [muts, e])) (fun k hk => .inl hk) (fun p hp k hk => .inl ⟨p, hp, hk⟩)⟩
      have := setCell_heap H3.out 0 (.int .i64 (n - 1))
      simpa using this

end Go.Proofs.YtglgjakjhkdoaaaDoor
