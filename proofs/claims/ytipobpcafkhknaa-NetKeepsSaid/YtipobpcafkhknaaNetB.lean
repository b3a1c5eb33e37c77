/-
  Walks over package net: what a network reads as, Send, Twice.
-/
import Derived.Test.YtipobpcafkhknaaNetA
import Derived.Deep.RegionHeld3
namespace Go.Proofs.Ytipobpcafkhknaa
open Go.RowKit
set_option linter.unusedSimpArgs false
set_option linter.unusedVariables false

/-- a gram comes back, whose bytes are the call's own -/
def RetGram (w : World) (t : Int) (bent : Bool) (m : Nat) (xs : List Value) (en : Ending) (w' : World) : Prop :=
  ∃ g cap, en = .returned (.agg #[.int .u8 t, .slice (some ⟨g, 0, none⟩) m cap, .bool bent]) ∧ w.heap.size ≤ g ∧ w'.ownsRow w.heap.size 5 1 (.slice (some ⟨g, 0, none⟩) m cap) m xs ∧ Below w.heap.size w w'

set_option maxHeartbeats 400000 in
theorem gram_clone (t : Int) (bent : Bool) (ad : Addr) (m c : Nat) (xs : List Value) (w : World) (hx : Rd w (.slice (some ad) m c) 1 m xs) (h1 : ∀ u ∈ xs, u.oneCell' = true) (hm : m ≤ 4096) :
    Calls Try.prog 20 #[.agg #[.int .u8 t, .slice (some ad) m c, .bool bent]] w (RetGram w t bent m xs) := by
  have hx' : ∀ o1 o2, Rd ((w.alloc o1).alloc o2) (.slice (some ad) m c) 1 m xs := fun o1 o2 => (hx.alloc _).alloc _
  go_enter Try.func20, Try.ntmps20
  go_wp2_with fail
  refine (bytes_clone_some ad m c xs _ (hx' _ _) h1 (by omega)).mono ?_
  rintro e w1 ⟨g, cap, rfl, hg, hown, hb⟩
  obtain ⟨hc, hf⟩ := bcell hb
  have k0 := hc w.heap.size 0 (by simp; omega)
  have k1 := hc w.heap.size 1 (by simp; omega)
  have k2 := hc w.heap.size 2 (by simp; omega)
  have f1 := hf w.heap.size 1 (by simp; omega)
  have l0 := hc (w.heap.size + 1) 0 (by simp)
  have l1 := hc (w.heap.size + 1) 1 (by simp)
  have l2 := hc (w.heap.size + 1) 2 (by simp)
  have g0 := hf (w.heap.size + 1) 0 (by simp)
  have g1 := hf (w.heap.size + 1) 1 (by simp)
  have g2 := hf (w.heap.size + 1) 2 (by simp)
  simp [go_sem] at k0 k1 k2 f1 l0 l1 l2 g0 g1 g2
  clear hc hf
  have HB := hide hb; clear hb
  go_wp2
  refine bodyPost_ret (v := .agg #[.int .u8 t, .slice (some ⟨g, 0, none⟩) m cap, .bool bent]) (by simp [results, Try.results20, go_sem, l0, l1, l2]) rfl ⟨g, cap, rfl, by simp at hg; omega, ?_, ?_⟩
  · simp at hown
    refine ownsRow_base (ownsRow_setCell_below (ownsRow_setCell_below (ownsRow_setCell_below (ownsRow_setCell_below hown ?_ _) ?_ _) ?_ _) ?_ _) (Nat.le_add_right _ 2) <;> (simp; try omega)
  · have hb := HB.out
    exact (((((((Below.refl _ _).alloc (Nat.le_refl _) _).alloc (by simp) _).trans (hb.mono (by simp; omega))).setCell (by simp) _).setCell (by simp) _).setCell (by simp) _).setCell (by simp) _

/-- a datagram on its way -/
structure G where
  to : Int
  b : List UInt8
  bent : Bool

def gflat : List (G × Value) → List Value
  | [] => []
  | (g, v) :: l => .int .u8 g.to :: v :: .bool g.bent :: gflat l
theorem gflat_length (l : List (G × Value)) : (gflat l).length = l.length * 3 := by
  induction l with
  | nil => rfl
  | cons p l ih => obtain ⟨g, v⟩ := p; simp only [gflat, List.length_cons, ih]; omega
theorem gflat_append (l r : List (G × Value)) : gflat (l ++ r) = gflat l ++ gflat r := by
  induction l with
  | nil => rfl
  | cons p l ih => obtain ⟨g, v⟩ := p; simp only [gflat, List.cons_append, ih]

/-- the blocks of a network -/
def netFp (nb : Nat) (v : Value) (L : List (G × Value)) : List Nat := nb :: (v.ownBlock.toList ++ L.flatMap fun p => p.2.ownBlock.toList)

/-- what a network's memory holds: at block nb, all of it in the blocks F -/
def NetRep (w : World) (nb : Nat) (l : List G) (F : List Nat) : Prop :=
  ∃ (v : Value) (L : List (G × Value)), l = L.map (·.1) ∧ F = netFp nb v L ∧ F.Nodup ∧ w.heap[nb]? = some (.cells #[v] 50 (0, 0)) ∧
    w.ownsRow 0 52 3 v L.length (gflat L) ∧ ∀ p ∈ L, w.ownsRow 0 5 1 p.2 p.1.b.length (bcells p.1.b) ∧ p.1.b ≠ []

theorem NetRep.same {w w' : World} {nb : Nat} {l : List G} {F : List Nat} (h : NetRep w nb l F) (hk : ∀ k ∈ F, w'.heap[k]? = w.heap[k]?) : NetRep w' nb l F := by
  obtain ⟨v, L, rfl, rfl, hn, h0, h1, h2⟩ := h
  refine ⟨v, L, rfl, rfl, hn, ?_, ?_, fun p hp => ⟨?_, (h2 p hp).2⟩⟩
  · rw [hk _ (by simp [netFp])]; exact h0
  · exact ownsRow_same h1 fun b hb => hk _ (by simp [netFp, hb])
  · refine ownsRow_same (h2 p hp).1 fun b hb => hk _ ?_
    simp only [netFp, List.mem_cons, List.mem_append, List.mem_flatMap]
    exact .inr (.inr ⟨p, hp, by simp [hb]⟩)
theorem NetRep.lt {w : World} {nb : Nat} {l : List G} {F : List Nat} (h : NetRep w nb l F) : ∀ k ∈ F, k < w.heap.size := by
  obtain ⟨v, L, rfl, rfl, hn, h0, h1, h2⟩ := h
  intro k hk
  simp only [netFp, List.mem_cons, List.mem_append, List.mem_flatMap, Option.mem_toList] at hk
  rcases hk with rfl | hk | ⟨p, hp, hk⟩
  · exact (Array.getElem?_eq_some_iff.1 h0).1
  · exact (h1.lt k hk).2
  · exact ((h2 p hp).1.lt k hk).2

end Go.Proofs.Ytipobpcafkhknaa
