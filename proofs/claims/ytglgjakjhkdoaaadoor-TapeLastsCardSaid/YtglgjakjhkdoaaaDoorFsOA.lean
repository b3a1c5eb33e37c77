/-
  A file system of the call's own; what is written out.
-/
import Derived.Test.YtglgjakjhkdoaaaDoorFsN
namespace Go.Proofs.YtglgjakjhkdoaaaDoor
open Go.RowKit Go.Maps
set_option linter.unusedVariables false
set_option linter.unusedSimpArgs false

/-- a file system of the call's own -/
structure FsOwn (W w : World) (sb : Nat) (s : FsS) (F : List Nat) : Prop where
  rep : FsRep w sb s F
  up : ∀ k ∈ F, W.heap.size ≤ k
  low : Below W.heap.size W w
  ok : s.Ok
theorem FsOwn.step {W w w' : World} {sb : Nat} {s s' : FsS} {F : List Nat} (h : FsOwn W w sb s F) (ht : FsTo w sb F s' w') (ok : s'.Ok) : ∃ F', FsOwn W w' sb s' F' ∧ Chg F F' w w' := by
  obtain ⟨F', h1, h2⟩ := ht
  exact ⟨F', ⟨h1, h2.up h.low.size h.up, h.low.trans (h2.below h.low.size h.up), ok⟩, h2⟩
theorem FsOwn.then {W w w' : World} {sb : Nat} {s : FsS} {F : List Nat} (h : FsOwn W w sb s F) (hb : Below w.heap.size w w') : FsOwn W w' sb s F := ⟨h.rep.low hb, h.up, h.low.trans (hb.mono h.low.size), h.ok⟩
theorem fs_New' (room : Int) (h0 : 0 ≤ room) (h1 : room ≤ 1048576) (W w : World) (hb : Below W.heap.size W w) : Calls Tryd.prog 13 #[.int .i64 room] w fun e w' => ∃ sb F, e = .returned (.pointer (some ⟨sb, 0, none⟩)) ∧ FsOwn W w' sb (fsNew room) F ∧ (∀ k ∈ F, w.heap.size ≤ k) ∧ Below w.heap.size w w' := by
  refine (fs_New room h0 h1 w).mono ?_
  rintro e w' ⟨sb, F, rfl, h1', h2, h3⟩
  exact ⟨sb, F, rfl, ⟨h1', fun k hk => Nat.le_trans hb.size (h2 k hk), hb.trans (h3.mono hb.size), fsNew_ok h0 h1⟩, h2, h3⟩
/-- bytes that are written out -/
theorem rdB_lit (w : World) (b : Bs) (n : Nat) (cs : Array Value) (hn : n = b.length) (hcs : cs = (bcells b).toArray) (h0 : 0 < n) : RdB (w.alloc (.cells cs 5)) (.slice (some ⟨w.heap.size, 0, none⟩) n n) b := by
  subst hcs
  have h := rd_new w (bcells b).toArray 5 n 1 h0 (by simp [bcells, hn])
  unfold RdB
  rw [← hn]
  simpa using h
theorem rdK_lit (w : World) (K : List Bool) (n : Nat) (cs : Array Value) (hn : n = K.length) (hcs : cs = (K.map Value.bool).toArray) (h0 : 0 < n) : RdK (w.alloc (.cells cs 4)) (.slice (some ⟨w.heap.size, 0, none⟩) n n) K := by
  subst hcs
  have h := rd_new w (K.map Value.bool).toArray 4 n 1 h0 (by simp [hn])
  unfold RdK
  rw [← hn]
  simpa using h
end Go.Proofs.YtglgjakjhkdoaaaDoor
