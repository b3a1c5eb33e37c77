/-
  What a row of this chapter begins with: the table of spaces; a list of texts.
-/
import Derived.Test.YtgolknkapcelpaaDoorGaH
import Derived.Test.YtgolknkapcelpaaDoorLaw
import Derived.Test.YtgolknkapcelpaaDoorRows
import Derived.Lib.LaidTab
import Derived.Stop.LaidErr
import Derived.MakeChecks
namespace Go.Proofs.YtgolknkapcelpaaDoor
open Go.RowKit Go.ChangeShapes Go.WideShapes Go.ChangeAt Go.Deep
set_option linter.unusedVariables false
set_option linter.unusedSimpArgs false

set_option maxRecDepth 100000 in
theorem tab_of_laid {W : World} (h : laidMetH Tryd.prog [("unicode.White_Space", Rows.laid_unicode_White_Space), ("strings.asciiSpace", Rows.laid_strings_asciiSpace)] W) : Tab W := by
  rw [MakeChecks.laidMetH_plain _ _ _ (by kernel_rfl)] at h
  have h2 := laidMet.tail h
  have e : (Rows.laid_strings_asciiSpace : DataW Unit) = Lib.tabData .u8 Lib.asciiSpaceTab := by kernel_rfl
  rw [e] at h2
  have hg : Tryd.prog.globalNamed "strings.asciiSpace" = some 0 := by kernel_rfl
  have ht := Lib.tabIs_of_head (t := 67) (e := 5) (n := 256) hg (by kernel_rfl) Tryd.underlying67 Tryd.underlying5 (by kernel_rfl) (by kernel_rfl) h2
  intro c hc
  rw [ht.cell hg c (by rw [Lib.asciiSpaceTab_length]; exact hc), Lib.asciiSpaceTab_at c hc]

theorem open_strs {H : Type} {enc : TypeId × Value → H} {W : World} {fuel : Nat} {cs : List Value} {x : DataW H × List MemPlace} (h : DataW.trod enc Tryd.prog W 0 (fun _ => true) true fuel 22 cs = some x) :
    ∃ (v : Value) (L : List Bs), cs = [v] ∧ RdStrs W v L := by
  rcases open_slice Tryd.underlying22 h with ⟨rfl, _⟩ | ⟨a, len, cap, m, n, D, Pl, rfl, _, hl, hm, hmm, _, hi⟩
  · exact ⟨_, [], rfl, ⟨by simp, .inl ⟨rfl, rfl⟩⟩, fun s hs => by cases hs⟩
  simp only [if_true] at hmm
  have hC : Tryd.prog.cellsOf 9 = 1 := by kernel_rfl
  have key : ∀ i, i < len → ∃ l : Bs, W.cell? (a.add i) = some (strV l) ∧ l.length ≤ maxLen := by
    intro i hi'
    obtain ⟨cs', hc, ht⟩ := hi i (by omega)
    rw [hC, Nat.mul_one] at hc
    obtain ⟨_, hcl, hat⟩ := World.cells?_some hc
    obtain ⟨s, rfl, _, hs⟩ := DataW.trod_string Tryd.underlying9 ht
    have h0 := hat 0 (by omega)
    refine ⟨s.data.toList, by simpa [Addr.add, strV] using h0, ?_⟩
    rw [Array.length_toList]
    exact hs
  obtain ⟨L, hLl, hL⟩ := list_of_key len key
  subst hLl
  refine ⟨_, L, rfl, ⟨by simp, .inr ⟨a, cap, rfl, fun j u hu => ?_⟩⟩, fun s hs => ?_⟩
  · simp only [List.getElem?_map, Option.map_eq_some_iff] at hu
    obtain ⟨y, hy, rfl⟩ := hu
    obtain ⟨hj, rfl⟩ := List.getElem?_eq_some_iff.1 hy
    exact (hL j hj).1
  · obtain ⟨i, hi, rfl⟩ := List.getElem_of_mem hs
    exact (hL i hi).2
end Go.Proofs.YtgolknkapcelpaaDoor
