/-
  The document's gauge: its walks; the laws' name, known.
-/
import Derived.Test.YtgolknkapcelpaaDoorGaC
import Derived.Test.YtgolknkapcelpaaDoorReg3
namespace Go.Proofs.YtgolknkapcelpaaDoor
open Go.RowKit Go.Maps
set_option linter.unusedVariables false
set_option linter.unusedSimpArgs false

theorem rg_Names (w : World) : Calls Tryd.prog 11 #[] w fun e w' => e = .returned (.slice (some ⟨w.heap.size, 0, none⟩) 11 11) ∧ w' = w.alloc (.cells (gaNames.map strV).toArray 9) := by
  go_enter Tryd.func11, Tryd.ntmps11
  go_wp2
  go_ret
  exact ⟨rfl, rfl⟩

/-- a row of the names -/
def NmRow (w : World) (q : Nat) : Prop := w.heap[q]? = some (.cells (gaNames.map strV).toArray 9 (0, 0))
theorem NmRow.at {w : World} {q : Nat} (h : NmRow w q) {i : Nat} (hi : i < 11) : w.cell? ⟨q, i, none⟩ = some (.string ⟨(gaNames.getD i []).toArray⟩) := by
  unfold NmRow at h
  simp only [World.cell?, h]
  rw [List.getD_eq_getElem?_getD]
  have : gaNames[i]? = some (gaNames[i]'(by simpa [gaNames] using hi)) := List.getElem?_eq_getElem _
  simp [this, strV]
theorem NmRow.lt {w : World} {q : Nat} (h : NmRow w q) : q < w.heap.size := (Array.getElem?_eq_some_iff.1 h).1
theorem NmRow.low {w w' : World} {q : Nat} (h : NmRow w q) (hb : Below w.heap.size w w') : NmRow w' q := (hb.block q h.lt).trans h
theorem nmIdx_some {k : Bs} {i : Nat} (h : nmIdx k = some i) : gaNames.getD i [] = k ∧ ∀ j, j < i → gaNames.getD j [] ≠ k := by
  unfold nmIdx at h
  obtain ⟨h1, h2, h3⟩ := List.findIdx?_eq_some_iff_getElem.1 h
  refine ⟨?_, fun j hj => ?_⟩
  · rw [List.getD_eq_getElem?_getD, List.getElem?_eq_getElem h1]
    simpa using h2
  · have := h3 j hj
    rw [List.getD_eq_getElem?_getD, List.getElem?_eq_getElem (by omega)]
    simpa using this
theorem nmIdx_none {k : Bs} (h : nmIdx k = none) : ∀ j, j < 11 → gaNames.getD j [] ≠ k := fun j hj => by
  unfold nmIdx at h
  rw [List.findIdx?_eq_none_iff] at h
  rw [List.getD_eq_getElem?_getD, List.getElem?_eq_getElem (by simpa [gaNames] using hj)]
  have := h _ (List.getElem_mem (by simpa [gaNames] using hj : j < gaNames.length))
  simpa using this
def nmAt (k : Bs) : Int := match nmIdx k with | none => -1 | some i => i

set_option maxRecDepth 100000 in
theorem rg_at (k : Bs) (w : World) : Calls Tryd.prog 22 #[.string ⟨k.toArray⟩] w fun e w' => e = .returned (.int .i64 (nmAt k)) ∧ Below w.heap.size w w' := by
  cases hi : nmIdx k with
  | none =>
    have e : nmAt k = -1 := by unfold nmAt; rw [hi]
    rw [e]
    have hno := hide (nmIdx_none hi)
    clear e hi
    go_enter Tryd.func22, Tryd.ntmps22
    go_wp2_with (go_at_call 11; refine (rg_Names _).mono ?_; rintro e W1 ⟨rfl, hW1⟩; have hr := hide (show NmRow W1 w.heap.size by rw [hW1]; exact heap_alloc_at w _); have hb := hide (show Below w.heap.size w W1 by rw [hW1]; exact below_alloc w _); clear hW1)
    go_loopw [4] (fun iv wr => ∃ i : Nat, iv = .int .i64 i ∧ i ≤ 11 ∧ W1 = wr) (fun iv _ => match iv with | .int _ j => 11 - j.toNat | _ => 0)
    case atStart => exact ⟨0, rfl, by omega, by trivial⟩
    case round =>
      obtain ⟨i, rfl, hi, rfl⟩ := hrel
      by_cases hin : i < 11
      · have i0 : (i : Int) < 11 := by omega
        obtain ⟨nm, hnm⟩ : ∃ nm, nm = gaNames.getD i [] := ⟨_, rfl⟩
        have c1 := hr.out.at hin
        have hne := hno.out i hin
        rw [← hnm] at c1 hne
        have hne2 : (nm == k) = false := by simpa using hne
        have hwi : IntKind.i64.wrap ((i : Int) + 1) = (i : Int) + 1 := wrapI (by omega) (by omega)
        clear hnm hne
        go_wp2
        exact ⟨⟨i + 1, by simp, hin, by trivial⟩, by show 11 - ((i : Int) + 1).toNat < 11 - ((i : Nat) : Int).toNat; omega⟩
      · obtain rfl : i = 11 := by omega
        go_wp2
        go_ret
        exact ⟨rfl, hb.out⟩
  | some m =>
    have e : nmAt k = m := by unfold nmAt; rw [hi]
    rw [e]
    have hm11 := nmIdx_lt hi
    have hyes := hide (nmIdx_some hi)
    clear e hi
    go_enter Tryd.func22, Tryd.ntmps22
    go_wp2_with (go_at_call 11; refine (rg_Names _).mono ?_; rintro e W1 ⟨rfl, hW1⟩; have hr := hide (show NmRow W1 w.heap.size by rw [hW1]; exact heap_alloc_at w _); have hb := hide (show Below w.heap.size w W1 by rw [hW1]; exact below_alloc w _); clear hW1)
    go_loopw [4] (fun iv wr => ∃ i : Nat, iv = .int .i64 i ∧ i ≤ m ∧ W1 = wr) (fun iv _ => match iv with | .int _ j => 11 - j.toNat | _ => 0)
    case atStart => exact ⟨0, rfl, by omega, by trivial⟩
    case round =>
      obtain ⟨i, rfl, hi, rfl⟩ := hrel
      have hin : i < 11 := by omega
      have i0 : (i : Int) < 11 := by omega
      obtain ⟨nm, hnm⟩ : ∃ nm, nm = gaNames.getD i [] := ⟨_, rfl⟩
      have c1 := hr.out.at hin
      rw [← hnm] at c1
      have hwi : IntKind.i64.wrap ((i : Int) + 1) = (i : Int) + 1 := wrapI (by omega) (by omega)
      by_cases him : i = m
      · subst him
        have hk : nm = k := by rw [hnm]; exact hyes.out.1
        have hk2 : (nm == k) = true := by simpa using hk
        clear hnm hk
        go_wp2
        go_ret
        exact ⟨rfl, hb.out⟩
      · have hne : nm ≠ k := by rw [hnm]; exact hyes.out.2 i (by omega)
        have hne2 : (nm == k) = false := by simpa using hne
        clear hnm hne
        go_wp2
        exact ⟨⟨i + 1, by simp, by omega, by trivial⟩, by show 11 - ((i : Int) + 1).toNat < 11 - ((i : Nat) : Int).toNat; omega⟩

/-- the document's gauge -/
def RAt (w : World) (rb : Nat) (N : List Nat) : Prop := w.heap[rb]? = some (.cells (N.map u64v).toArray 61 (0, 0))
theorem RAt.facts {w : World} {rb : Nat} {N : List Nat} (h : RAt w rb N) : rb < w.heap.size ∧ (∀ i, w.frozen? ⟨rb, i, none⟩ = false) ∧ ∀ (i n : Nat), N[i]? = some n → w.cell? ⟨rb, i, none⟩ = some (.int .u64 n) := by
  unfold RAt at h
  refine ⟨(Array.getElem?_eq_some_iff.1 h).1, fun i => by simp [World.frozen?, h], fun i n hn => ?_⟩
  simp only [World.cell?, h]
  simp [hn, u64v]
theorem RAt.low {w w' : World} {rb : Nat} {N : List Nat} (h : RAt w rb N) (hb : Below w.heap.size w w') : RAt w' rb N := (hb.block rb h.facts.1).trans h
theorem RAt.chg {w w' : World} {rb : Nat} {N F F' : List Nat} (h : RAt w rb N) (hc : Chg F F' w w') (hn : rb ∉ F) : RAt w' rb N := (hc.block rb h.facts.1 hn).trans h
theorem RAt.set {w : World} {rb : Nat} {N : List Nat} (h : RAt w rb N) (i m : Nat) : RAt (w.setCell ⟨rb, i, none⟩ (.int .u64 m)) rb (N.set i m) := by
  unfold RAt at h ⊢
  rw [setCell_heap h]
  simp [List.map_set, u64v]

theorem rg_New (w : World) : Calls Tryd.prog 8 #[] w fun e w' => e = .returned (.pointer (some ⟨w.heap.size, 0, none⟩)) ∧ RAt w' w.heap.size (List.replicate 11 0) ∧ Below w.heap.size w w' := by
  go_enter Tryd.func8, Tryd.ntmps8
  go_wp2
  go_ret
  have h := heap_alloc_at w (.cells ((List.replicate 11 0).map u64v).toArray 61)
  exact ⟨rfl, h, below_alloc w _⟩
end Go.Proofs.YtgolknkapcelpaaDoor
