/-
  A byte of one element written.
-/
import Derived.Test.YtipobpcafkhknaaItems
namespace Go.Proofs.Ytipobpcafkhknaa
open Go.RowKit
set_option linter.unusedSimpArgs false
set_option linter.unusedVariables false

theorem rd_new' (w : World) (cs : Array Value) (e : TypeId) (n m size : Nat) (hn : n = w.heap.size) (hs : 0 < m) (h : cs.size = m * size) : Rd (w.alloc (.cells cs e)) (.slice (some ⟨n, 0, none⟩) m m) size m cs.toList := by
  subst hn
  exact rd_new w cs e m size hs h
theorem size_setCell (w : World) (a : Addr) (u : Value) : (w.setCell a u).heap.size = w.heap.size := by simp [World.setCell]

theorem Items.low {w w' : World} {e size : Nat} {v : Value} {L : List Item} (h : Items w e size v L) (hb : Below w.heap.size w w') : Items w' e size v L := h.same fun k hk => hb.block k (h.lt k hk)

theorem itFp_set (v : Value) (L : List Item) (i : Nat) (t : Item) (b : List UInt8) (h : L[i]? = some t) : itFp v (L.set i { t with b := b }) = itFp v L := by
  have : ∀ (L : List Item) (i : Nat), L[i]? = some t → (L.set i { t with b := b }).flatMap (fun t => t.x.ownBlock.toList) = L.flatMap fun t => t.x.ownBlock.toList := by
    intro L
    induction L with
    | nil => intro i h; simp at h
    | cons p L ih =>
      intro i h
      cases i with
      | zero => simp at h; subst h; simp
      | succ i => simp only [List.set_cons_succ, List.flatMap_cons]; rw [ih i (by simpa using h)]
  simp [itFp, this L i h]
theorem flat_set (L : List Item) (i : Nat) (t : Item) (b : List UInt8) (h : L[i]? = some t) : (L.set i { t with b := b }).flatMap Item.cells = L.flatMap Item.cells := by
  induction L generalizing i with
  | nil => simp at h
  | cons p L ih =>
    cases i with
    | zero => simp at h; subst h; simp [Item.cells]
    | succ i => simp only [List.set_cons_succ, List.flatMap_cons]; rw [ih i (by simpa using h)]

theorem bcells_set' (b : List UInt8) (k : Nat) (y : UInt8) : bcells (b.set k y) = (bcells b).set k (.int .u8 y.toNat) := by simp [bcells, List.map_set]

/-- a byte of the i-th element is written -/
theorem Items.setByte {w : World} {e size : Nat} {v : Value} {L : List Item} (h : Items w e size v L) {i : Nat} {t : Item} (hi : L[i]? = some t) {gb gc : Nat} (hx : t.x = .slice (some ⟨gb, 0, none⟩) t.b.length gc) (k : Nat) (y : UInt8) :
    Items (w.setCell ⟨gb, k, none⟩ (.int .u8 y.toNat)) e size v (L.set i { t with b := t.b.set k y }) ∧ Chg (itFp v L) (itFp v L) w (w.setCell ⟨gb, k, none⟩ (.int .u8 y.toNat)) := by
  have hm := List.mem_of_getElem? hi
  have hnd := List.nodup_append.1 h.nodup
  have hgm : gb ∈ L.flatMap fun t => t.x.ownBlock.toList := List.mem_flatMap.2 ⟨t, hm, by simp [hx, Value.ownBlock]⟩
  refine ⟨⟨by rw [itFp_set v L i t _ hi]; exact h.nodup, ?_, fun s hs => ?_⟩, ⟨rfl, rfl, rfl, by simp [World.setCell], fun q hq hqn => ?_, fun q hq => .inl hq⟩⟩
  · rw [flat_set L i t _ hi, List.length_set]
    exact ownsRow_same h.row fun b hb => heap_set_ne fun e => hnd.2.2 b (by simp [hb]) gb hgm e
  · obtain ⟨j, hj⟩ := List.mem_iff_getElem?.1 hs
    rw [List.getElem?_set] at hj
    by_cases e : i = j
    · subst e
      have hil := (List.getElem?_eq_some_iff.1 hi).1
      simp only [if_pos hil, if_true, Option.some.injEq] at hj
      subst hj
      obtain ⟨h1, h2, h3⟩ := h.each t hm
      refine ⟨h1, h2, ?_⟩
      simp only
      rw [hx] at h3 ⊢
      have h5 := (h3.stored k (.int .u8 y.toNat)).1
      simpa [bcells_set'] using h5
    · rw [if_neg e] at hj
      have hsm := List.mem_of_getElem? hj
      obtain ⟨h1, h2, h3⟩ := h.each s hsm
      refine ⟨h1, h2, ownsRow_same h3 fun b hb => heap_set_ne fun e2 => ?_⟩
      exact nodup_flatMap_ne (f := fun t : Item => t.x.ownBlock.toList) hnd.2.1 hj hi (Ne.symm e) (k := b) (by simp [hb]) (by simp [hx, Value.ownBlock, e2])
  · refine heap_set_ne fun e => hqn ?_
    subst e
    exact List.mem_append_right _ hgm
end Go.Proofs.Ytipobpcafkhknaa
