/-
  The head of stuff's laws: known.
-/
import Derived.Test.YthodfkebmcnhnaaDoorStD
import Derived.Test.YthodfkebmcnhnaaDoorStE
namespace Go.Proofs.YthodfkebmcnhnaaDoor
open Go.RowKit
set_option linter.unusedVariables false
set_option linter.unusedSimpArgs false

theorem wrap_ex1 : wrapW [0x11, 0x22, 0, 0x33] = [3, 0x11, 0x22, 2, 0x33, 0] := by simp [wrapW, bodyW, splitZ, part_short]
theorem wrap_ex2 : wrapW [] = [1, 0] := by simp [wrapW, bodyW, splitZ, part_short]
theorem open_ex : oE [3, 0x11, 0] = 90 := by
  have : opened [3, 0x11, 0] = none := by
    unfold opened
    rw [if_neg (by decide)]
    show openR [3, 0x11] false = none
    rw [openR_no _ _ _ (by decide)]
  simp [oE, this]

set_option maxRecDepth 100000 in
set_option maxHeartbeats 3200000 in
theorem st_known (w : World) : Calls Tryd.prog 9 #[] w fun e w' => e = .returned (.bool true) ∧ Below w.heap.size w w' := by
  have h1 : RdB (w.alloc (.cells #[.int .u8 17, .int .u8 34, .int .u8 0, .int .u8 51] 5)) (.slice (some ⟨w.heap.size, 0, none⟩) 4 4) [0x11, 0x22, 0, 0x33] := rd_new w _ _ 4 1 (by decide) rfl
  have hlt0 : ∀ k, (Value.slice (some ⟨w.heap.size, 0, none⟩) ([0x11, 0x22, 0, 0x33] : List UInt8).length 4).ownBlock = some k → k < (w.alloc (.cells #[.int .u8 17, .int .u8 34, .int .u8 0, .int .u8 51] 5)).heap.size := by
    intro k hk
    have : k = w.heap.size := by simpa [Value.ownBlock] using hk.symm
    simp
    omega
  have H1 := hide (st_Wrap [0x11, 0x22, 0, 0x33] (some ⟨w.heap.size, 0, none⟩) 4 _ h1 (by decide) (by decide) (by decide) hlt0)
  have HA := hide (below_alloc w (.cells #[.int .u8 17, .int .u8 34, .int .u8 0, .int .u8 51] 5))
  rw [wrap_ex1] at H1
  clear h1 hlt0
  go_enter Tryd.func9, Tryd.ntmps9
  go_wp2_with fail
  refine H1.out.mono ?_
  rintro e w1 ⟨a1, c1, rfl, ho1, hb1⟩
  have HO1 := hide ho1
  have HB1 := hide (HA.out.trans (hb1.mono (by simp)))
  clear H1 HA ho1 hb1
  have H2 := hide (st_Wrap [] none 0 w1 (RdB.nil w1) (by decide) (by decide) (by decide) (by intro k hk; cases hk))
  rw [wrap_ex2] at H2
  go_wp2_with fail
  refine H2.out.mono ?_
  rintro e w2 ⟨a2, c2, rfl, ho2, hb2⟩
  have HO2 := hide ho2
  have HR1 := hide (ownsRow_rd (ownsRow_below HO1.out hb2 (Nat.le_refl _)))
  have HB2 := hide (HB1.out.trans (hb2.mono HB1.out.size))
  clear H2 ho2 hb2 HB1 HO1
  have h3 : RdB (w2.alloc (.cells #[.int .u8 3, .int .u8 17, .int .u8 0] 5)) (.slice (some ⟨w2.heap.size, 0, none⟩) 3 3) [3, 0x11, 0] := rd_new w2 _ _ 3 1 (by decide) rfl
  have H3 := hide (st_Open [3, 0x11, 0] (some ⟨w2.heap.size, 0, none⟩) 3 _ h3 (by decide) (by decide) (by decide))
  clear h3
  go_wp2_with fail
  refine H3.out.mono ?_
  rintro e w3 ⟨a3, n3, c3, rfl, ho3, hn3, hb3⟩
  rw [open_ex]
  have hb3' : Below w2.heap.size w2 w3 := (below_alloc w2 _).trans (hb3.mono (by simp))
  have hr1 : RdB w3 (.slice a1 6 c1) [3, 0x11, 0x22, 2, 0x33, 0] := HR1.out.low hb3'
  have hr2 : RdB w3 (.slice a2 2 c2) [1, 0] := (ownsRow_rd HO2.out).low hb3'
  have HB3 := hide (HB2.out.trans (hb3'.mono HB2.out.size))
  generalize oN [3, 0x11, 0] = m3
  clear H3 ho3 hn3 hb3 hb3' HR1 HO2 HB2
  have v1 := convert_rd _ _ _ hr1
  have v2 : ∀ o, (convert 22 9 (.slice a2 2 c2)).run Tryd.prog (w3.alloc o) = .ok (.string ⟨([1, 0] : List UInt8).toArray⟩) (w3.alloc o) := fun o => convert_rd _ _ _ (hr2.low (below_alloc w3 o))
  have v3 : (convert 22 9 (.slice (some ⟨w3.heap.size, 0, none⟩) 6 6)).run Tryd.prog (w3.alloc (.cells #[.int .u8 3, .int .u8 17, .int .u8 34, .int .u8 2, .int .u8 51, .int .u8 0] 5)) = .ok (.string ⟨([3, 0x11, 0x22, 2, 0x33, 0] : List UInt8).toArray⟩) (w3.alloc (.cells #[.int .u8 3, .int .u8 17, .int .u8 34, .int .u8 2, .int .u8 51, .int .u8 0] 5)) :=
    convert_rd _ _ _ (rd_new w3 _ _ 6 1 (by decide) rfl)
  have v4 : ∀ (X : World), (convert 22 9 (.slice (some ⟨X.heap.size, 0, none⟩) 2 2)).run Tryd.prog (X.alloc (.cells #[.int .u8 1, .int .u8 0] 5)) = .ok (.string ⟨([1, 0] : List UInt8).toArray⟩) (X.alloc (.cells #[.int .u8 1, .int .u8 0] 5)) :=
    fun X => convert_rd [1, 0] _ _ (rd_new X _ _ 2 1 (by decide) rfl)
  have v5 := v4 (w3.alloc (.cells #[.int .u8 3, .int .u8 17, .int .u8 34, .int .u8 2, .int .u8 51, .int .u8 0] 5))
  rw [World.size_alloc] at v5
  clear hr1 hr2 v4
  go_wp2
  go_ret
  exact ⟨rfl, HB3.out.trans (((below_alloc w3 _).trans ((below_alloc _ _).mono (by simp))).mono HB3.out.size)⟩
end Go.Proofs.YthodfkebmcnhnaaDoor
