/-
  Slices of structs that each hold one slice of bytes of their own: what they read as, all their blocks, and what append leaves.
-/
import Derived.Test.YtglgjakjhkdoaaaDoorBase
namespace Go.Proofs.YtglgjakjhkdoaaaDoor
open Go.RowKit
set_option linter.unusedSimpArgs false
set_option linter.unusedVariables false

theorem Chg.alloc {F F' : List Nat} {w w' : World} (h : Chg F F' w w') (o : Obj) : Chg F F' w (w'.alloc o) :=
  ⟨h.os, h.tape, h.output, by have := h.size; simp; omega, fun k hk hn => (Below.heap_alloc w' o k (Nat.lt_of_lt_of_le hk h.size)).trans (h.block k hk hn), h.fresh⟩
theorem Chg.sub {F F' G : List Nat} {w w' : World} (h : Chg F F' w w') (hs : ∀ k ∈ G, k ∈ F') : Chg F G w w' :=
  ⟨h.os, h.tape, h.output, h.size, h.block, fun k hk => h.fresh k (hs k hk)⟩

/-- an element: its cells ahead of its bytes' slice, that slice, its cells behind it, the bytes -/
structure Item where
  pre : List Value
  x : Value
  post : List Value
  b : List UInt8
def Item.cells (t : Item) : List Value := t.pre ++ t.x :: t.post
def itFp (v : Value) (L : List Item) : List Nat := v.ownBlock.toList ++ L.flatMap fun t => t.x.ownBlock.toList

structure Items (w : World) (e size : Nat) (v : Value) (L : List Item) : Prop where
  nodup : (itFp v L).Nodup
  row : w.ownsRow 0 e size v L.length (L.flatMap Item.cells)
  each : ∀ t ∈ L, t.cells.length = size ∧ (∀ u ∈ t.cells, u.oneCell' = true) ∧ w.ownsRow 0 5 1 t.x t.b.length (bcells t.b)

theorem Items.nil (w : World) (e size : Nat) : Items w e size (.slice none 0 0) [] :=
  ⟨by simp [itFp, Value.ownBlock], by simpa using World.ownsRow_nil w 0 e size, fun _ h => by cases h⟩
theorem Items.same {w w' : World} {e size : Nat} {v : Value} {L : List Item} (h : Items w e size v L) (hk : ∀ k ∈ itFp v L, w'.heap[k]? = w.heap[k]?) : Items w' e size v L := by
  refine ⟨h.nodup, ownsRow_same h.row fun b hb => hk b (by simp [itFp, hb]), fun t ht => ⟨(h.each t ht).1, (h.each t ht).2.1, ownsRow_same (h.each t ht).2.2 fun b hb => hk b ?_⟩⟩
  simp only [itFp, List.mem_append, List.mem_flatMap]
  exact .inr ⟨t, ht, by simp [hb]⟩
theorem Items.lt {w : World} {e size : Nat} {v : Value} {L : List Item} (h : Items w e size v L) : ∀ k ∈ itFp v L, k < w.heap.size := by
  intro k hk
  simp only [itFp, List.mem_append, List.mem_flatMap, Option.mem_toList] at hk
  rcases hk with hk | ⟨t, ht, hk⟩
  · exact (h.row.lt k hk).2
  · exact ((h.each t ht).2.2.lt k hk).2
theorem flat_length {size : Nat} : ∀ {L : List Item}, (∀ t ∈ L, t.cells.length = size) → (L.flatMap Item.cells).length = L.length * size
  | [], _ => by simp
  | t :: L, h => by
    rw [List.flatMap_cons, List.length_append, flat_length fun t ht => h t (by simp [ht]), h t (by simp), List.length_cons, Nat.add_mul, Nat.one_mul, Nat.add_comm]
theorem flat_get {size : Nat} : ∀ {L : List Item}, (∀ t ∈ L, t.cells.length = size) → ∀ {i j : Nat} {t : Item}, L[i]? = some t → j < size → (L.flatMap Item.cells)[i * size + j]? = t.cells[j]?
  | t0 :: L, h, 0, j, t, hi, hj => by
    simp only [List.getElem?_cons_zero, Option.some.injEq] at hi
    subst hi
    rw [List.flatMap_cons, Nat.zero_mul, Nat.zero_add, List.getElem?_append_left (by rw [h t0 (by simp)]; exact hj)]
  | t0 :: L, h, i + 1, j, t, hi, hj => by
    have h0 := h t0 (by simp)
    rw [List.flatMap_cons, List.getElem?_append_right (by rw [h0, Nat.add_mul]; omega), h0, show (i + 1) * size + j - size = i * size + j from by rw [Nat.add_mul]; omega]
    exact flat_get (fun t ht => h t (by simp [ht])) (by simpa using hi) hj
/-- the i-th element, as it lies in memory -/
theorem Items.get {w : World} {e size : Nat} {v : Value} {L : List Item} (h : Items w e size v L) {i : Nat} {t : Item} (hi : L[i]? = some t) :
    ∃ g cap, v = .slice (some ⟨g, 0, none⟩) L.length cap ∧ (∀ j, j < size → w.cell? ⟨g, i * size + j, none⟩ = t.cells[j]?) ∧ (∀ o, w.frozen? ⟨g, o, none⟩ = false) ∧ g < w.heap.size := by
  have hlt := (List.getElem?_eq_some_iff.1 hi).1
  obtain ⟨g, cap, rfl, _⟩ := ownsRow_some h.row (by
    intro e0
    rcases h.row.2 with ⟨_, hz⟩ | ⟨_, _, _, hz, _⟩
    · omega
    · rw [e0] at hz; cases hz)
  refine ⟨g, cap, rfl, fun j hj => ?_, h.row.frozenAt, (h.row.lt g rfl).2⟩
  have hb : i * size + j < L.length * size := by
    have : (i + 1) * size ≤ L.length * size := Nat.mul_le_mul_right _ hlt
    rw [Nat.add_mul] at this
    omega
  rw [h.row.cellAt _ hb]
  exact flat_get (fun t ht => (h.each t ht).1) hi hj
theorem Items.head {w : World} {e size : Nat} {v : Value} {L : List Item} (h : Items w e size v L) : ∃ a c, v = .slice a L.length c := by
  rcases h.row.2 with ⟨rfl, hz⟩ | ⟨g, cap, _, rfl, _⟩
  · exact ⟨none, 0, by rw [hz]⟩
  · exact ⟨_, _, rfl⟩

theorem nodup_itFp_app {v v' : Value} {L : List Item} {t : Item} {B C : Nat} (h : (itFp v L).Nodup) (hlt : ∀ k ∈ itFp v L, k < B) (hx : ∀ g, t.x.ownBlock = some g → B ≤ g ∧ g < C)
    (hBC : B ≤ C) (hv : v'.ownBlock = v.ownBlock ∨ v'.ownBlock = some C) : (itFp v' (L ++ [t])).Nodup := by
  simp only [itFp, List.flatMap_append, List.flatMap_cons, List.flatMap_nil, List.append_nil] at h hlt ⊢
  rw [← List.append_assoc]
  have hL : ∀ k ∈ L.flatMap (fun t => t.x.ownBlock.toList), k < B := fun k hk => hlt k (List.mem_append_right _ hk)
  have h2 := List.nodup_append.1 h
  have hmid : (v'.ownBlock.toList ++ L.flatMap fun t => t.x.ownBlock.toList).Nodup := by
    rcases hv with e | e
    · rw [e]; exact h
    · rw [e]
      simp only [Option.toList_some, List.cons_append, List.nil_append, List.nodup_cons]
      exact ⟨fun hm => by have := hL _ hm; omega, h2.2.1⟩
  refine List.nodup_append.2 ⟨hmid, by cases t.x.ownBlock <;> simp, fun a ha b hb => ?_⟩
  have hb' := hx b (by simpa using hb)
  rcases List.mem_append.1 ha with ha | ha
  · rcases hv with e | e
    · rw [e] at ha
      have := hlt a (List.mem_append_left _ ha)
      omega
    · rw [e] at ha
      simp only [Option.toList_some, List.mem_singleton] at ha
      omega
  · have := hL a ha
    omega

/-- behind an append of an element whose bytes are new -/
theorem Items.append {w w1 w2 : World} {e size : Nat} {v v' : Value} {L : List Item} {t : Item} (h : Items w e size v L) (hb : Below w.heap.size w w1) (ht : t.cells.length = size) (ht1 : ∀ u ∈ t.cells, u.oneCell' = true)
    (hx : w1.ownsRow 0 5 1 t.x t.b.length (bcells t.b)) (hxn : ∀ g, t.x.ownBlock = some g → w.heap.size ≤ g) (hgrow : w1.grownBy w2 v.ownBlock)
    (hown2 : w2.ownsRow 0 e size v' (L.length + 1) (L.flatMap Item.cells ++ t.cells)) (hv' : v'.ownBlock = v.ownBlock ∨ v'.ownBlock = some w1.heap.size) :
    Items w2 e size v' (L ++ [t]) ∧ Chg (itFp v L) (itFp v' (L ++ [t])) w w2 := by
  have hlt := h.lt
  have hs1 := hb.size
  have hxg : ∀ g, t.x.ownBlock = some g → w.heap.size ≤ g ∧ g < w1.heap.size := fun g hg => ⟨hxn g hg, (hx.lt g hg).2⟩
  have hnd := nodup_itFp_app (t := t) h.nodup hlt hxg hs1 hv'
  have hk : ∀ k, k < w1.heap.size → some k ≠ v.ownBlock → w2.heap[k]? = w1.heap[k]? := hgrow.block
  have hnd2 := List.nodup_append.1 h.nodup
  refine ⟨⟨hnd, by simpa using hown2, fun s hs => ?_⟩, ⟨hgrow.os.trans hb.os, hgrow.tape.trans hb.tape, hgrow.output.trans hb.output, Nat.le_trans hb.size hgrow.size, fun k hkl hkn => ?_, fun k hk' => ?_⟩⟩
  · rcases List.mem_append.1 hs with hs | hs
    · obtain ⟨h1, h2, h3⟩ := h.each s hs
      refine ⟨h1, h2, ownsRow_same h3 fun b hb' => ?_⟩
      have hbm : b ∈ L.flatMap fun t => t.x.ownBlock.toList := List.mem_flatMap.2 ⟨s, hs, by simp [hb']⟩
      have hbl := hlt b (List.mem_append_right _ hbm)
      rw [hk b (by omega) (fun e => hnd2.2.2 b (by simp [← e]) b hbm rfl), hb.block b hbl]
    · simp only [List.mem_singleton] at hs
      subst hs
      refine ⟨ht, ht1, ownsRow_same hx fun b hb' => hk b (hxg b hb').2 fun e => ?_⟩
      have := hlt b (by simp [itFp, ← e])
      have := (hxg b hb').1
      omega
  · simp only [itFp, List.mem_append, not_or, Option.mem_toList] at hkn
    rw [hk k (by omega) (fun e => hkn.1 e.symm), hb.block k hkl]
  · simp only [itFp, List.flatMap_append, List.flatMap_cons, List.flatMap_nil, List.append_nil, List.mem_append, Option.mem_toList] at hk' ⊢
    rcases hk' with hk' | hk' | hk'
    · rcases hv' with e | e
      · exact .inl (.inl (e ▸ hk'))
      · rw [e] at hk'
        cases hk'
        exact .inr hs1
    · exact .inl (.inr hk')
    · exact .inr (hxn k hk')

/-- a list that is only read: each element's cells, and its bytes -/
structure RdItems (w : World) (size : Nat) (v : Value) (L : List Item) : Prop where
  row : Rd w v size L.length (L.flatMap Item.cells)
  each : ∀ t ∈ L, t.cells.length = size ∧ Rd w t.x 1 t.b.length (bcells t.b)
theorem Items.rd {w : World} {e size : Nat} {v : Value} {L : List Item} (h : Items w e size v L) : RdItems w size v L :=
  ⟨ownsRow_rd h.row, fun t ht => ⟨(h.each t ht).1, ownsRow_rd (h.each t ht).2.2⟩⟩
theorem RdItems.same {w w' : World} {size : Nat} {v : Value} {L : List Item} (h : RdItems w size v L) (hk : ∀ k, k < w.heap.size → (v.ownBlock = some k ∨ ∃ t ∈ L, t.x.ownBlock = some k) → w'.heap[k]? = w.heap[k]?) : RdItems w' size v L :=
  ⟨h.row.kept fun b hb hl => hk b hl (.inl hb), fun t ht => ⟨(h.each t ht).1, (h.each t ht).2.kept fun b hb hl => hk b hl (.inr ⟨t, ht, hb⟩)⟩⟩
end Go.Proofs.YtglgjakjhkdoaaaDoor
