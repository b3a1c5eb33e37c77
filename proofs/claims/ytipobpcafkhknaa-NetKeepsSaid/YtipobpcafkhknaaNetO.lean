/-
  SameGrams of two lists that are alike: true.
-/
import Derived.Test.YtipobpcafkhknaaNetL
namespace Go.Proofs.Ytipobpcafkhknaa
open Go.RowKit
set_option linter.unusedSimpArgs false
set_option linter.unusedVariables false

/-- datagrams as they are read -/
def RdGrams (w : World) (v : Value) (l : List (Int × List UInt8)) : Prop := ∃ L, RdItems w 2 v L ∧ L.map (fun t => (t.pre, t.post, t.b)) = l.map fun g => ([Value.int .u8 g.1], [], g.2)

theorem RdGrams.head {w : World} {v : Value} {l : List (Int × List UInt8)} (h : RdGrams w v l) : ∃ a c, v = .slice a l.length c := by
  obtain ⟨L, h1, h2⟩ := h
  obtain ⟨a, c, rfl⟩ := h1.row.head
  have := congrArg List.length h2
  simp only [List.length_map] at this
  exact ⟨a, c, by rw [this]⟩
theorem RdGrams.get {w : World} {v : Value} {l : List (Int × List UInt8)} (h : RdGrams w v l) {i : Nat} {g : Int × List UInt8} (hi : l[i]? = some g) :
    ∃ b off c ax cx, v = .slice (some ⟨b, off, none⟩) l.length c ∧ w.cell? ⟨b, off + i * 2, none⟩ = some (.int .u8 g.1) ∧ w.cell? ⟨b, off + i * 2 + 1, none⟩ = some (.slice ax g.2.length cx) ∧ Rd w (.slice ax g.2.length cx) 1 g.2.length (bcells g.2) ∧ b < w.heap.size := by
  obtain ⟨L, h1, h2⟩ := h
  have hlen := congrArg List.length h2
  simp only [List.length_map] at hlen
  have hlt := (List.getElem?_eq_some_iff.1 hi).1
  have hg : L[i]? = some L[i] := List.getElem?_eq_getElem (by omega)
  obtain ⟨b, off, c, rfl, hc, hr, hb⟩ := h1.get hg (by omega)
  have hk : (L[i].pre, L[i].post, L[i].b) = ([Value.int .u8 g.1], [], g.2) := by
    have e := congrArg (fun l => l[i]?) h2
    simp only [List.getElem?_map, hg, hi, Option.map_some, Option.some.injEq] at e
    exact e
  simp only [Prod.mk.injEq] at hk
  obtain ⟨k1, k2, k3⟩ := hk
  rw [k3] at hr
  obtain ⟨ax, cx, hx⟩ := hr.head
  refine ⟨b, off, c, ax, cx, by rw [hlen], ?_, ?_, hx ▸ hr, hb⟩
  · have := hc 0 (by omega); simpa [Item.cells, k1] using this
  · have := hc 1 (by omega); rw [Nat.add_assoc]; simpa [Item.cells, k1, k2, hx] using this
theorem RdGrams.low {w w' : World} {v : Value} {l : List (Int × List UInt8)} (h : RdGrams w v l) (hb : Below w.heap.size w w') : RdGrams w' v l := by
  obtain ⟨L, h1, h2⟩ := h
  exact ⟨L, h1.low hb, h2⟩

set_option maxRecDepth 100000 in
set_option maxHeartbeats 1600000 in
theorem same_grams (va vb : Value) (l : List (Int × List UInt8)) (w : World) (ha : RdGrams w va l) (hb : RdGrams w vb l) (hl : l.length ≤ 9223372036854775807) (hg : ∀ g ∈ l, 0 ≤ g.1 ∧ g.1 ≤ 255 ∧ g.2.length ≤ 9223372036854775807) :
    Calls Try.prog 14 #[va, vb] w fun e w' => e = .returned (.bool true) ∧ Below w.heap.size w w' := by
  obtain ⟨a1, c1, rfl⟩ := ha.head
  obtain ⟨a2, c2, rfl⟩ := hb.head
  have hne : ((l.length : Int) == (l.length : Int)) = true := by simp
  have HA := hide ha; have HB := hide hb; have HG := hide hg
  clear ha hb hg
  go_enter Try.func14, Try.ntmps14
  go_wp2
  go_loopw [5] (fun i wr => ∃ k : Nat, k ≤ l.length ∧ i = .int .i64 k ∧ Hid (Below w.heap.size w wr)) (fun i _ => l.length - (intOf i).toNat)
  case atStart => exact ⟨0, Nat.zero_le _, rfl, Below.refl _ _⟩
  case round =>
    obtain ⟨k, hk, rfl, hbw⟩ := hrel
    by_cases hlt : k < l.length
    · have hgk : l[k]? = some l[k] := List.getElem?_eq_getElem hlt
      obtain ⟨g, hge⟩ : ∃ g, g = l[k] := ⟨_, rfl⟩
      rw [← hge] at hgk
      obtain ⟨g1, g2, g3⟩ := HG.out g (List.mem_of_getElem? hgk)
      obtain ⟨b1, o1, _, ax1, cx1, hv1, p0, p1, r1, hb1⟩ := HA.out.get hgk
      obtain ⟨b2, o2, _, ax2, cx2, hv2, q0, q1, r2, hb2⟩ := HB.out.get hgk
      simp only [Value.slice.injEq, true_and] at hv1 hv2
      obtain ⟨rfl, rfl⟩ := hv1
      obtain ⟨rfl, rfl⟩ := hv2
      have s0 : ∀ w', Below w.heap.size w w' → w'.cell? ⟨b1, o1 + k * 2, none⟩ = some (.int .u8 g.1) := fun w' h => (h.cell (p := ⟨b1, o1 + k * 2, none⟩) hb1).trans p0
      have s1 : ∀ w', Below w.heap.size w w' → w'.cell? ⟨b1, o1 + k * 2 + 1, none⟩ = some (.slice ax1 g.2.length cx1) := fun w' h => (h.cell (p := ⟨b1, o1 + k * 2 + 1, none⟩) hb1).trans p1
      have t0 : ∀ w', Below w.heap.size w w' → w'.cell? ⟨b2, o2 + k * 2, none⟩ = some (.int .u8 g.1) := fun w' h => (h.cell (p := ⟨b2, o2 + k * 2, none⟩) hb2).trans q0
      have t1 : ∀ w', Below w.heap.size w w' → w'.cell? ⟨b2, o2 + k * 2 + 1, none⟩ = some (.slice ax2 g.2.length cx2) := fun w' h => (h.cell (p := ⟨b2, o2 + k * 2 + 1, none⟩) hb2).trans q1
      have v1 : ∀ w', Below w.heap.size w w' → (convert 22 9 (.slice ax1 g.2.length cx1)).run Try.prog w' = .ok (.string ⟨g.2.toArray⟩) w' := fun w' h => convert_rd g.2 _ _ (r1.low h)
      have v2 : ∀ w', Below w.heap.size w w' → (convert 22 9 (.slice ax2 g.2.length cx2)).run Try.prog w' = .ok (.string ⟨g.2.toArray⟩) w' := fun w' h => convert_rd g.2 _ _ (r2.low h)
      have i1 : (0 : Int) ≤ (k : Int) := by omega
      have i2 : (k : Int) < (l.length : Int) := by omega
      clear p0 p1 q0 q1 r1 r2 hge hgk
      go_wp2_with fail
      refine wp_region_new 26 43 (by kernel_rfl) (by kernel_rfl) rfl (by kernel_rfl) (fun w' => Below w.heap.size w w') hbw.out (fun w w' h1 h2 => h2.trans (h1.mono h2.size)) (fun h => h.drew) ?_
      simp only [List.take_succ_cons, List.take_zero, List.drop_succ_cons, List.drop_zero]
      iterate 26 (refine Hav.read (e := ?_) (fun v => by rfl) (fun v w' hS hF => ?_) ?_; rotate_left; (first | (go_simp; done) | (go_simp; with_reducible rfl)); go_simp)
      refine Hav.fin (fun v w' hS hF => ?_)
      have HS := hide hS
      clear hF hS s0 s1 t0 t1 v1 v2 hbw
      go_wp2
      go_roundw
      case rel => exact ⟨k + 1, by omega, by go_num, HS⟩
      case measure => simp [intOf]; omega
    · go_wp2
      go_ret
      exact ⟨rfl, hbw.out⟩
end Go.Proofs.Ytipobpcafkhknaa
