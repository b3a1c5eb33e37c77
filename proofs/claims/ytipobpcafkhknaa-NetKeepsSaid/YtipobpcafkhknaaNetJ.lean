/-
  Walks over the law's own helpers: heavy.
-/
import Derived.Test.YtipobpcafkhknaaNetI
namespace Go.Proofs.Ytipobpcafkhknaa
open Go.RowKit
set_option linter.unusedSimpArgs false
set_option linter.unusedVariables false

theorem Rd.addr {w : World} {x : Value} {size m : Nat} {xs : List Value} (h : Rd w x size m xs) (hp : 0 < m) (hs : 0 < size) : ∃ b off c, x = .slice (some ⟨b, off, none⟩) m c ∧ (∀ j u, xs[j]? = some u → w.cell? ⟨b, off + j, none⟩ = some u) ∧ b < w.heap.size := by
  obtain ⟨hl, ⟨_, hm⟩ | ⟨a, c, rfl, hc⟩⟩ := h
  · omega
  have hpos : 0 < xs.length := by rw [hl]; exact Nat.mul_pos hp hs
  obtain ⟨u, hu⟩ : ∃ u, xs[0]? = some u := ⟨xs[0], by simp⟩
  have h0 := hc 0 u hu
  obtain ⟨b, off, spot⟩ := a
  have hspot : spot = none := by simpa [Addr.add] using World.cell?_spot h0
  subst hspot
  refine ⟨b, off, c, rfl, fun j u hu => ?_, ?_⟩
  · have := hc j u hu
    rw [show (⟨b, off, none⟩ : Addr).add j = ⟨b, off + j, none⟩ from by unfold Addr.add; split <;> simp_all] at this
    exact this
  · have := World.block_lt_of_cell? _ _ h0
    simpa [Addr.add] using this
theorem Rd.head {w : World} {x : Value} {size m : Nat} {xs : List Value} (h : Rd w x size m xs) : ∃ a c, x = .slice a m c := by
  obtain ⟨hl, ⟨rfl, rfl⟩ | ⟨a, c, rfl, hc⟩⟩ := h
  · exact ⟨none, 0, rfl⟩
  · exact ⟨_, _, rfl⟩

/-- the i-th element of a list that is read -/
theorem RdItems.get {w : World} {size : Nat} {v : Value} {L : List Item} (h : RdItems w size v L) {i : Nat} {t : Item} (hi : L[i]? = some t) (hs : 0 < size) :
    ∃ b off c, v = .slice (some ⟨b, off, none⟩) L.length c ∧ (∀ j, j < size → w.cell? ⟨b, off + (i * size + j), none⟩ = t.cells[j]?) ∧ Rd w t.x 1 t.b.length (bcells t.b) ∧ b < w.heap.size := by
  have hlt := (List.getElem?_eq_some_iff.1 hi).1
  obtain ⟨b, off, c, rfl, hc, hb⟩ := h.row.addr (by omega) hs
  refine ⟨b, off, c, rfl, fun j hj => ?_, (h.each t (List.mem_of_getElem? hi)).2, hb⟩
  have hget := flat_get (fun t ht => (h.each t ht).1) hi hj
  have hl := (h.each t (List.mem_of_getElem? hi)).1
  have hjl : j < t.cells.length := by omega
  rw [List.getElem?_eq_getElem hjl] at hget ⊢
  exact hc _ _ hget

def heavyB (L : List Item) : Bool := decide (80 < L.length) || L.any fun t => decide (5000 < t.b.length)

/-- an element of a law's list of calls -/
def opPre (k to : Int) : List Value := [.int .u8 k, .int .u8 to]
def opPost (i at_ x : Int) : List Value := [.int .i64 i, .int .i64 at_, .int .u8 x]
def IsOp (t : Item) : Prop := ∃ k to i at_ x, t.pre = opPre k to ∧ t.post = opPost i at_ x ∧ 0 ≤ k ∧ k ≤ 255 ∧ 0 ≤ to ∧ to ≤ 255 ∧ -9223372036854775808 ≤ i ∧ i ≤ 9223372036854775807 ∧ -9223372036854775808 ≤ at_ ∧ at_ ≤ 9223372036854775807 ∧ 0 ≤ x ∧ x ≤ 255

set_option maxRecDepth 100000 in
set_option maxHeartbeats 800000 in
theorem law_heavy (v : Value) (L : List Item) (w : World) (hL : RdItems w 6 v L) (hop : ∀ t ∈ L, IsOp t) (hl : L.length ≤ 9223372036854775807) (hb : ∀ t ∈ L, t.b.length ≤ 9223372036854775807) :
    Calls Try.prog 7 #[v] w fun e w' => e = .returned (.bool (heavyB L)) ∧ w = w' := by
  obtain ⟨a0, c0, rfl⟩ := hL.row.head
  by_cases h80 : 80 < L.length
  · have hres : heavyB L = true := by simp [heavyB, h80]
    have HR := hide hres
    clear hres hop hb
    go_enter Try.func7, Try.ntmps7
    go_wp2
    go_ret
    exact ⟨by rw [HR.out]; rfl, rfl⟩
  have HL := hide hL; have HO := hide hop; have HB := hide hb
  clear hL hop hb
  go_enter Try.func7, Try.ntmps7
  go_wp2
  go_loop [3] (fun i => ∃ k : Nat, k ≤ L.length ∧ i = .int .i64 k ∧ Hid (∀ t ∈ L.take k, t.b.length ≤ 5000)) (fun i => L.length - (intOf i).toNat)
  case atStart => exact ⟨0, Nat.zero_le _, rfl, fun t ht => by simp at ht⟩
  case round =>
    obtain ⟨k, hk, rfl, hrel⟩ := hrel
    by_cases hlt : k < L.length
    · have hg : L[k]? = some L[k] := List.getElem?_eq_getElem hlt
      obtain ⟨t, ht⟩ : ∃ t, t = L[k] := ⟨_, rfl⟩
      rw [← ht] at hg
      have hm := List.mem_of_getElem? hg
      obtain ⟨b, off, c, hv, hcell, hrd, _⟩ := HL.out.get hg (by omega)
      simp only [Value.slice.injEq, true_and] at hv
      obtain ⟨rfl, rfl⟩ := hv
      obtain ⟨k', to, i', at_, x, e1, e2, _⟩ := HO.out t hm
      obtain ⟨ax, cx, hx⟩ := hrd.head
      have hbl := HB.out t hm
      have q : w.cell? ⟨b, off + (k * 6 + 2), none⟩ = some (.slice ax t.b.length cx) := by rw [hcell 2 (by omega)]; simp [Item.cells, e1, e2, opPre, hx]
      have q' : w.cell? ⟨b, off + k * 6 + 2, none⟩ = some (.slice ax t.b.length cx) := by rw [Nat.add_assoc]; exact q
      have htk : L.take (k + 1) = L.take k ++ [t] := by rw [List.take_succ_eq_append_getElem hlt, ← ht]
      have HT := hide htk; have HM := hide hm
      clear hcell hrd hx q htk hm ht hg e1 e2
      by_cases h5 : 5000 < t.b.length
      · have hres : heavyB L = true := by simp only [heavyB, Bool.or_eq_true, decide_eq_true_eq, List.any_eq_true]; exact .inr ⟨t, HM.out, h5⟩
        have HR := hide hres
        clear hres
        go_wp2
        go_ret
        exact ⟨by rw [HR.out]; rfl, rfl⟩
      · go_wp2
        go_round
        case rel =>
          refine ⟨k + 1, by omega, by go_num, fun s hs => ?_⟩
          rw [HT.out] at hs
          rcases List.mem_append.1 hs with hs | hs
          · exact hrel.out s hs
          · simp only [List.mem_singleton] at hs; subst hs; omega
        case measure => simp [intOf]; omega
    · have hres : heavyB L = false := by
        simp only [heavyB, Bool.or_eq_false_iff, decide_eq_false_iff_not, List.any_eq_false]
        refine ⟨h80, fun t ht => ?_⟩
        have := hrel.out t (by rw [List.take_of_length_le (by omega)]; exact ht)
        simp only [decide_eq_true_eq]
        omega
      have HR := hide hres
      clear hres
      go_wp2
      go_ret
      exact ⟨by rw [HR.out]; rfl, rfl⟩
end Go.Proofs.Ytipobpcafkhknaa
