/-
  Rows of rows of bytes at a place; a Loss in a box.
-/
import Derived.Test.YtcgkhocmlolknaaFsW
import Derived.Test.YtcgkhocmlolknaaFsR
import Derived.Deep.DeepCutAuto
namespace Go.Proofs.Ytcgkhocmlolknaa
open Go.RowKit Go.Maps
set_option linter.unusedVariables false
set_option linter.unusedSimpArgs false

/-- a row of rows of bytes that is read: its i-th -/
theorem bytess_at {W : World} {a0 : Option Addr} {c0 n0 : Nat} {l : List Bs} (h0 : RdBs W (.slice a0 n0 c0) l) {i : Nat} (hil : i < l.length) :
    ∃ bb off pa pn pc, a0 = some ⟨bb, off, none⟩ ∧ bb < W.heap.size ∧ W.cell? ⟨bb, off + i, none⟩ = some (.slice pa pn pc) ∧ RdB W (.slice pa pn pc) l[i] ∧ pn = l[i].length ∧ (0 < pn → ∀ k, (Value.slice pa pn pc).ownBlock = some k → k < W.heap.size) := by
  obtain ⟨bb, off, cc, v, he, hcell, hrd, hbw⟩ := h0.at hil
  simp only [Value.slice.injEq] at he
  obtain ⟨rfl, -, rfl⟩ := he
  obtain ⟨pa, pc, rfl⟩ := hrd.head
  refine ⟨bb, off, pa, _, pc, rfl, hbw, hcell, hrd, rfl, fun h0 k hk => ?_⟩
  obtain ⟨b9, o9, c9, he, _, hb9⟩ := RdB.at hrd (k := 0) h0
  simp only [Value.slice.injEq] at he
  obtain ⟨rfl, -⟩ := he
  simp only [Value.ownBlock, Option.some.injEq] at hk
  omega
/-- what a Loss in a box is -/
theorem loss_box {W : World} {a2 : Option Addr} {n2 c2 : Nat} {t2 : Int} : ∀ WB, WB = W.alloc (.cells #[.slice a2 n2 c2, .int .i64 t2] 30) → Below W.heap.size W WB ∧ WB.heap.size = W.heap.size + 1 ∧ ∀ w', Below WB.heap.size WB w' → w'.cell? ⟨W.heap.size, 0, none⟩ = some (.slice a2 n2 c2) ∧ w'.cell? ⟨W.heap.size, 1, none⟩ = some (.int .i64 t2) := by
  rintro WB rfl
  refine ⟨below_alloc _ _, by simp, fun w' hw => ?_⟩
  have g1 := (hw.block W.heap.size (by simp)).trans (heap_alloc_at W _)
  simp [World.cell?, g1]
theorem RdK.lowK {W : World} {a2 : Option Addr} {n2 c2 : Nat} {K2 : List Bool} (h : RdK W (.slice a2 n2 c2) K2) (hn : n2 = K2.length) : 0 < n2 → ∀ k, (Value.slice a2 n2 c2).ownBlock = some k → k < W.heap.size := fun hp k hk => by
  obtain ⟨bb, off, cc, he, _, hb⟩ := RdK.at h (k := 0) (by omega)
  simp only [Value.slice.injEq] at he
  obtain ⟨rfl, -⟩ := he
  simp only [Value.ownBlock, Option.some.injEq] at hk
  omega
end Go.Proofs.Ytcgkhocmlolknaa
