/-
  Walks over the reference of frames: Same.
-/
import Derived.Test.YtnnhgennmlkpmaaFrU
namespace Go.Proofs.Ytnnhgennmlkpmaa
open Go.RowKit
set_option linter.unusedVariables false
set_option linter.unusedSimpArgs false

def sameHead (f g : Fr) : Bool := decide (f.kind = g.kind) && (decide (f.epoch = g.epoch) && (decide (f.series = g.series) && (decide (f.chunk = g.chunk ∧ f.bits = g.bits ∧ f.cnt = g.cnt) && (decide (f.count = g.count) && (decide (f.closed = g.closed) && decide (f.sum = g.sum))))))
def sameB (f g : Fr) : Bool := sameHead f g && (decide (f.n = g.n) && (f.b == g.b))
theorem sameB_iff (f g : Fr) : sameB f g = true ↔ f = g := by
  obtain ⟨a1, a2, a3, a4, a5, a6, a7, a8, a9, a10, a11⟩ := f
  obtain ⟨b1, b2, b3, b4, b5, b6, b7, b8, b9, b10, b11⟩ := g
  unfold sameB sameHead
  simp
  constructor
  · rintro ⟨⟨h1, h2, h3, ⟨h4, h5, h6⟩, h7, h8, h9⟩, h10, h11⟩
    exact ⟨h1, h2, h3, h4, h5, h6, h7, h8, h9, h11, h10⟩
  · rintro ⟨h1, h2, h3, h4, h5, h6, h7, h8, h9, h11, h10⟩
    exact ⟨⟨h1, h2, h3, ⟨h4, h5, h6⟩, h7, h8, h9⟩, h10, h11⟩

set_option maxRecDepth 100000 in
set_option maxHeartbeats 1600000 in
theorem ref_same (f : Fr) (a1 : Option Addr) (c1 : Nat) (g : Fr) (a2 : Option Addr) (c2 : Nat) (w : World) (h1 : RdB w (.slice a1 f.b.length c1) f.b) (h2 : RdB w (.slice a2 g.b.length c2) g.b) :
    Calls Try.prog 16 #[frV f (.slice a1 f.b.length c1), frV g (.slice a2 g.b.length c2)] w fun e w' => e = .returned (.bool (sameB f g)) ∧ Below w.heap.size w w' := by
  have hb := (below_alloc w (.cells (frCells f (.slice a1 f.b.length c1)) 30)).alloc (by simp) (.cells (frCells g (.slice a2 g.b.length c2)) 30)
  have HB := hide hb
  have hx1 := h1.low hb; have hx2 := h2.low hb
  have HX1 := hide h1; have HX2 := hide h2
  have hsame : Hid (sameB f g = (sameHead f g && (decide (f.n = g.n) && (f.b == g.b)))) := hide rfl
  have hhead : Hid (sameHead f g = (decide (f.kind = g.kind) && (decide (f.epoch = g.epoch) && (decide (f.series = g.series) && (decide (f.chunk = g.chunk ∧ f.bits = g.bits ∧ f.cnt = g.cnt) && (decide (f.count = g.count) && (decide (f.closed = g.closed) && decide (f.sum = g.sum)))))))) := hide rfl
  generalize sameB f g = sb at *
  generalize sameHead f g = sh at *
  obtain ⟨kind, epoch, series, chunk, bits_, cnt, count, closed, sum, b, n⟩ := f
  obtain ⟨kind', epoch', series', chunk', bits', cnt', count', closed', sum', b', n'⟩ := g
  simp only at *
  unfold frV frCells
  clear h1 h2 hb hx1 hx2
  go_enter Try.func16, Try.ntmps16
  go_wp2_with (go_at_call 13; refine (ref_same01 a1 c1 b _ a2 c2 b' _ _ (HX1.out.low ((below_alloc _ _).alloc (by simp) _)) (HX2.out.low ((below_alloc _ _).alloc (by simp) _))).mono ?_; rintro e w2 ⟨rfl, hb2⟩; have HB2 := hide (((below_alloc _ _).alloc (by simp) _).trans (hb2.mono (by simp; omega))); clear hb2)
  all_goals try go_wp2
  all_goals go_ret
  all_goals refine ⟨ret_bool ?_, by first | exact HB2.out | exact ((below_alloc _ _).alloc (by simp) _)⟩
  all_goals rw [hsame.out, hhead.out]
  all_goals try simp [*]
  all_goals try (intros; omega)
  all_goals try (intros; exfalso; first | omega | contradiction)
end Go.Proofs.Ytnnhgennmlkpmaa
