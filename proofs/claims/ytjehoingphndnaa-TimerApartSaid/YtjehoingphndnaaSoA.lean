/-
  The library's sort at uint32: a row of numbers in memory, cmp.Less, insertion, reversing. (The plain functions and what they do: Derived.Sort.)
-/
import Derived.Test.YtjehoingphndnaaBase
import Derived.Sort.WalkA6
import Derived.Sort.Grow
namespace Go.Proofs.Ytjehoingphndnaa
open Go.RowKit Go.Sort
set_option linter.unusedVariables false
set_option linter.unusedSimpArgs false

abbrev encU (n : Int) : Value := .int .u32 n

/-- from w on: the row at blk, off holds dk; nothing else is other, but new blocks -/
structure RowAt (w : World) (blk off : Nat) (d dk : Array Int) (wr : World) : Prop where
  holds : Holds encU w blk off d
  low : blk < w.heap.size
  size : dk.size = d.size
  eq : ∃ m os, wr = grow (putRow encU (Sort.ahead w m) blk off dk) os
theorem RowAt.refl {w : World} {blk off : Nat} {d : Array Int} (h : Holds encU w blk off d) (hb : blk < w.heap.size) : RowAt w blk off d d w :=
  ⟨h, hb, rfl, 0, #[], by rw [grow_empty, ahead_zero, putRow_self _ _ _ _ _ h]⟩
theorem RowAt.there {w wr : World} {blk off : Nat} {d dk : Array Int} (h : RowAt w blk off d dk wr) : Holds encU wr blk off dk := by
  obtain ⟨m, os, rfl⟩ := h.eq
  exact holds_grow _ _ _ _ _ _ (by simpa using h.low) (holds_putRow _ _ _ _ d dk (holds_ahead _ _ _ _ _ _ h.holds) h.size)
theorem RowAt.lowr {w wr : World} {blk off : Nat} {d dk : Array Int} (h : RowAt w blk off d dk wr) : blk < wr.heap.size := by
  obtain ⟨m, os, rfl⟩ := h.eq
  simp only [size_grow, size_putRow, heap_ahead]
  have := h.low
  omega
theorem RowAt.trans {w w1 w2 : World} {blk off : Nat} {d d1 d2 : Array Int} (h : RowAt w blk off d d1 w1) (k : RowAt w1 blk off d1 d2 w2) : RowAt w blk off d d2 w2 := by
  obtain ⟨m, os, rfl⟩ := h.eq
  obtain ⟨m2, os2, rfl⟩ := k.eq
  exact ⟨h.holds, h.low, k.size.trans h.size, m + m2, os ++ os2, grow_step_grow _ _ _ _ _ _ _ _ _ _ h.low k.size⟩
theorem RowAt.fam {w wr : World} {blk off : Nat} {d dk : Array Int} (h : RowAt w blk off d dk wr) :
    ∃ G : Nat → Int, Hid (∀ t, G t = dk[t]!) ∧ (∀ t, t < d.size → wr.cell? ⟨blk, off + t, none⟩ = some (.int .u32 (G t))) ∧ (∀ t, t < d.size → wr.frozen? ⟨blk, off + t, none⟩ = false) :=
  ⟨fun t => dk[t]!, hide fun _ => rfl, fun t ht => (h.there t (by rw [h.size]; exact ht)).1, fun t ht => (h.there t (by rw [h.size]; exact ht)).2⟩
theorem RowAt.drewN {w wr : World} {blk off : Nat} {d dk : Array Int} (h : RowAt w blk off d dk wr) (q : Nat) : RowAt w blk off d dk (wr.drewN q) := by
  obtain ⟨m, os, rfl⟩ := h.eq
  refine ⟨h.holds, h.low, h.size, m + q, os, ?_⟩
  show Sort.ahead (grow (putRow encU (Sort.ahead w m) blk off dk) os) q = _
  rw [ahead_grow, putRow_ahead, ahead_ahead, ← putRow_ahead]
theorem RowAt.drew {w wr : World} {blk off : Nat} {d dk : Array Int} (h : RowAt w blk off d dk wr) : RowAt w blk off d dk wr.drew := h.drewN 1
theorem RowAt.alloc {w wr : World} {blk off : Nat} {d dk : Array Int} (h : RowAt w blk off d dk wr) (o : Obj) : RowAt w blk off d dk (wr.alloc o) := by
  obtain ⟨m, os, rfl⟩ := h.eq
  exact ⟨h.holds, h.low, h.size, m, os ++ #[o], by rw [alloc_eq_grow, grow_grow]⟩
/-- a store into a new block -/
theorem RowAt.setNew {w wr : World} {blk off : Nat} {d dk : Array Int} (h : RowAt w blk off d dk wr) (b k : Nat) (v : Value) (hb : w.heap.size ≤ b) : RowAt w blk off d dk (wr.setCell ⟨b, k, none⟩ v) := by
  obtain ⟨m, os, rfl⟩ := h.eq
  refine ⟨h.holds, h.low, h.size, m, os.modify (b - w.heap.size) (onCells (·.setIfInBounds k v)), ?_⟩
  rw [setCell_eq, mapBlock_grow_new _ _ _ _ (by simpa using hb)]
  simp
/-- 'data[j], data[k] = data[k], data[j]' -/
theorem RowAt.swap {w wr : World} {blk off : Nat} {d dk : Array Int} (h : RowAt w blk off d dk wr) {G : Nat → Int} (hG : ∀ t, G t = dk[t]!) (j k : Nat) (hj : j < d.size) (hk : k < d.size) (q : Nat) :
    RowAt w blk off d (swp dk j k) (((wr.drewN q).setCell ⟨blk, off + j, none⟩ (.int .u32 (G k))).setCell ⟨blk, off + k, none⟩ (.int .u32 (G j))) := by
  have hs := h.size
  obtain ⟨m, os, e⟩ := (h.drewN q).eq
  refine ⟨h.holds, h.low, by rw [size_swp]; exact h.size, m, os, ?_⟩
  rw [e, hG, hG, setCell_eq, setCell_eq, mapBlock_grow _ _ _ _ (by simpa using h.low), mapBlock_grow _ _ _ _ (by simpa [mapBlock] using h.low), ← setCell_eq, ← setCell_eq]
  rw [show (Value.int .u32 dk[k]!) = encU dk[k]! from rfl, show (Value.int .u32 dk[j]!) = encU dk[j]! from rfl, putRow_swp encU _ blk off dk j k (by omega) (by omega)]

set_option maxHeartbeats 1000000 in
theorem so_isNaN (x : Int) (w : World) : Calls Try.prog 41 #[.int .u32 x] w fun e w' => e = .returned (.bool false) ∧ w' = w := by
  go_enter Try.func41, Try.ntmps41
  go_wp2
  go_ret
  exact ⟨by simp, rfl⟩
set_option maxHeartbeats 1000000 in
theorem so_Less (x y : Int) (w : World) : Calls Try.prog 31 #[.int .u32 x, .int .u32 y] w fun e w' => e = .returned (.bool (Sort.ltInt x y)) ∧ w' = w := by
  go_enter Try.func31, Try.ntmps31
  go_wp2_with (go_at_call 41; refine (so_isNaN _ _).mono ?_; rintro e w' ⟨rfl, rfl⟩)
  go_ret
  exact ⟨rfl, rfl⟩

set_option maxRecDepth 100000 in
set_option maxHeartbeats 1600000 in
theorem so_insertion (blk off cap a b : Nat) (d : Array Int) (w : World) (hH : Holds encU w blk off d) (hl : blk < w.heap.size) (hab : a ≤ b) (hb : b ≤ d.size) (hsz : d.size < 4611686018427387904) :
    Calls Try.prog 25 #[.slice (some ⟨blk, off, none⟩) d.size cap, .int .i64 a, .int .i64 b] w fun e w' => e = .returned (.tuple #[]) ∧ RowAt w blk off d (Sort.insertionSort ltInt d a b) w' := by
  have h0 := RowAt.refl hH hl
  have H0 := hide h0
  clear hH h0
  go_enter Try.func25, Try.ntmps25
  go_wp2
  go_loopw [6] (fun vi wr => ∃ (i : Nat) (dk : Array Int), vi = .int .i64 i ∧ a < i ∧ i ≤ b + 1 ∧ Hid (RowAt w blk off d dk wr) ∧ Hid (insOuter ltInt a b i dk = insOuter ltInt a b (a + 1) d)) (fun vi _ => b + 1 - (intOf vi).toNat)
  case atStart => exact ⟨a + 1, d, by go_num, by omega, by omega, H0, hide rfl⟩
  case round =>
    obtain ⟨i, dk, rfl, hai, hib, hR, hO⟩ := hrel
    go_wp2
    · have hlt : i < b := by assumption
      go_loopw [7] (fun vj wr2 => ∃ (j : Nat) (dj : Array Int), vj = .int .i64 j ∧ a ≤ j ∧ j ≤ i ∧ Hid (RowAt w blk off d dj wr2) ∧ Hid (insInner ltInt a j dj = insInner ltInt a i dk)) (fun vj _ => (intOf vj).toNat)
      case atStart => exact ⟨i, dk, rfl, by omega, Nat.le_refl _, hR, hide rfl⟩
      case round =>
        obtain ⟨j, dj, rfl, haj, hji, hJ, hI⟩ := hrel
        obtain ⟨G, HG, hcw, hfw⟩ := hJ.out.fam
        have OUT : Hid ((j ≤ a ∨ ltInt dj[j]! dj[j - 1]! = false) → ∀ q, ∃ (i' : Nat) (dk' : Array Int), Value.int .i64 ((i : Int) + 1) = .int .i64 i' ∧ a < i' ∧ i' ≤ b + 1 ∧ Hid (RowAt w blk off d dk' (wr.drewN q)) ∧ Hid (insOuter ltInt a b i' dk' = insOuter ltInt a b (a + 1) d)) := hide fun hs q =>
          ⟨i + 1, dj, by go_num, by omega, by omega, hide (hJ.out.drewN q), hide (by rw [← hO.out, insOuter_go _ _ _ _ _ hlt, ← hI.out, insInner_stop _ _ _ _ hs])⟩
        by_cases hja : a < j
        · go_wp2_with fail
          go_quiet (first | (go_at_call 31; refine Calls.quiet_of_same (so_Less _ _ _)))
          go_wp2
          · have hl : ltInt (G j) (G (j - 1)) = true := by assumption
            go_region
            all_goals go_wp2
            go_roundw
            case rel => exact ⟨j - 1, swp dj j (j - 1), by congr 1; omega, by omega, by omega, hide (hJ.out.swap HG.out j (j - 1) (by omega) (by omega) _), hide (by rw [← hI.out, insInner_go ltInt a j dj hja (by rw [← HG.out, ← HG.out]; exact hl)])⟩
            case measure => simp [intOf]; omega
          · have hl : ltInt (G j) (G (j - 1)) = false := by assumption
            go_roundw
            case rel => exact OUT.out (Or.inr (by rw [← HG.out, ← HG.out]; exact hl)) nq
            case measure => simp [intOf]; omega
        · go_wp2_with fail
          go_quiet (first | (go_at_call 31; refine Calls.quiet_of_same (so_Less _ _ _)))
          go_wp2
          go_roundw
          case rel => exact OUT.out (Or.inl (by omega)) nq
          case measure => simp [intOf]; omega
    · have hge : ¬ i < b := by assumption
      go_end0
      refine ⟨rfl, ?_⟩
      unfold Sort.insertionSort
      rw [← hO.out, insOuter_stop _ _ _ _ _ hge]
      exact hR.out
end Go.Proofs.Ytjehoingphndnaa
