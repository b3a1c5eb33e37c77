/-
  The reference's network: Send, Twice, Bent.
-/
import Derived.Test.YtipobpcafkhknaaNetS
namespace Go.Proofs.Ytipobpcafkhknaa
open Go.RowKit
set_option linter.unusedVariables false
set_option linter.unusedSimpArgs false

theorem RefAt.get {w : World} {rb : Nat} {l : List G} {Lv Bv : Value} {L : List Item} (h : RefAt w rb l Lv Bv L) {i : Nat} {g : G} (hi : l[i]? = some g) (hgb : g.b ≠ []) :
    ∃ lb lc bb bc xb xc t, Lv = .slice (some ⟨lb, 0, none⟩) l.length lc ∧ Bv = .slice (some ⟨bb, 0, none⟩) l.length bc ∧ L[i]? = some t ∧ t.key = g.key ∧ t.x = .slice (some ⟨xb, 0, none⟩) g.b.length xc ∧
      w.cell? ⟨lb, i * 2, none⟩ = some (.int .u8 g.to) ∧ w.cell? ⟨lb, i * 2 + 1, none⟩ = some (.slice (some ⟨xb, 0, none⟩) g.b.length xc) ∧ w.cell? ⟨bb, i, none⟩ = some (.bool g.bent) ∧ w.frozen? ⟨bb, i, none⟩ = false ∧
      w.ownsRow 0 5 1 (.slice (some ⟨xb, 0, none⟩) g.b.length xc) g.b.length (bcells g.b) ∧ lb < w.heap.size ∧ bb < w.heap.size ∧ xb < w.heap.size ∧ rb < w.heap.size := by
  have hlt := (List.getElem?_eq_some_iff.1 hi).1
  have hll := h.len
  obtain ⟨t, ht⟩ : ∃ t, L[i]? = some t := ⟨_, List.getElem?_eq_getElem (by omega)⟩
  have hkey : t.key = g.key := by
    have e1 := congrArg (fun l => l[i]?) h.key
    simpa [ht, hi] using e1
  have hkey' := hkey
  simp only [Item.key, G.key, Prod.mk.injEq] at hkey
  obtain ⟨k1, k2, k3⟩ := hkey
  obtain ⟨lb, lc, hLv, hc, _, hlb⟩ := h.items.get ht
  obtain ⟨_, _, ho⟩ := h.items.each t (List.mem_of_getElem? ht)
  rw [k3] at ho
  obtain ⟨xb, xc, hx, _⟩ := ownsRow_some ho (fun e => by
    rcases ho.2 with ⟨_, hz⟩ | ⟨_, _, _, hz, _⟩
    · exact hgb (List.eq_nil_of_length_eq_zero hz)
    · rw [e] at hz; cases hz)
  rw [hx] at ho
  have hrow := h.row
  obtain ⟨bb, bc, hBv, _⟩ := ownsRow_some hrow (fun e => by
    rcases hrow.2 with ⟨_, hz⟩ | ⟨_, _, _, hz, _⟩
    · omega
    · rw [e] at hz; cases hz)
  rw [hBv] at hrow
  refine ⟨lb, lc, bb, bc, xb, xc, t, by rw [hLv, hll], hBv, ht, hkey', hx, ?_, ?_, ?_, hrow.frozenAt i, ho, hlb, (hrow.lt bb rfl).2, (ho.lt xb rfl).2, (Array.getElem?_eq_some_iff.1 h.cells).1⟩
  · have := hc 0 (by omega); simpa [Item.cells, k1] using this
  · have := hc 1 (by omega); simpa [Item.cells, k1, hx] using this
  · rw [hrow.cellAt i (by omega)]
    simp [bents, hi]

set_option maxRecDepth 100000 in
set_option maxHeartbeats 800000 in
theorem ref_send (rb : Nat) (l : List G) (F : List Nat) (t : Int) (ad : Addr) (c : Nat) (b : List UInt8) (w : World) (h : RefRep w rb l F) (ht0 : 0 ≤ t) (ht1 : t ≤ 1) (hl : l.length < 4096) (hx : Rd w (.slice (some ad) b.length c) 1 b.length (bcells b)) (hb0 : 0 < b.length) (hb : b.length ≤ 4096) :
    Calls Try.prog 28 #[.pointer (some ⟨rb, 0, none⟩), .int .u8 t, .slice (some ad) b.length c] w (Moved (fun w' F' => RefRep w' rb (l ++ [⟨t, b, false⟩]) F') (.bool true) w F) := by
  have H := hide h; have HX := hide hx
  obtain ⟨Lv, Bv, L, h, _⟩ := h
  obtain ⟨⟨a, c1, rfl⟩, _, c0, _⟩ := h.heads
  have hz : ((b.length : Int) == 0) = false := by rw [beq_eq_false_iff_ne]; omega
  clear h hx
  go_enter Try.func28, Try.ntmps28
  go_wp2_with fail
  refine (ref_add rb l F t ad c b false w H.out (by omega) HX.out hb0 hb).mono ?_
  rintro e w' ⟨rfl, hm⟩
  have HM := hide hm; clear hm
  go_wp2
  go_ret
  exact ⟨rfl, HM.out⟩

set_option maxHeartbeats 800000 in
theorem ref_send_no (rb : Nat) (l : List G) (F : List Nat) (t : Int) (a : Option Addr) (m c : Nat) (w : World) (h : RefRep w rb l F) (hm63 : m ≤ 9223372036854775807) (hl : l.length ≤ 4096)
    (hno : 1 < t ∨ m = 0 ∨ 4096 < m ∨ l.length = 4096) :
    Calls Try.prog 28 #[.pointer (some ⟨rb, 0, none⟩), .int .u8 t, .slice a m c] w fun e w' => e = .returned (.bool false) ∧ w = w' := by
  obtain ⟨Lv, Bv, L, h, _⟩ := h
  obtain ⟨⟨a0, c1, rfl⟩, _, c0, _⟩ := h.heads
  clear h
  by_cases h1 : 1 < t
  · go_enter Try.func28, Try.ntmps28
    go_wp2
    go_ret
    exact ⟨rfl, rfl⟩
  by_cases h2 : m = 0
  · have h2' : ((m : Int) == 0) = true := by simp [h2]
    clear h2
    go_enter Try.func28, Try.ntmps28
    go_wp2
    go_ret
    exact ⟨rfl, rfl⟩
  have h2' : ((m : Int) == 0) = false := by simp [h2]
  by_cases h3 : 4096 < m
  · clear h2
    go_enter Try.func28, Try.ntmps28
    go_wp2
    go_ret
    exact ⟨rfl, rfl⟩
  have h4 : 4096 ≤ l.length := by omega
  clear h2 hno
  go_enter Try.func28, Try.ntmps28
  go_wp2
  go_ret
  exact ⟨rfl, rfl⟩

set_option maxRecDepth 100000 in
set_option maxHeartbeats 1600000 in
theorem ref_twice (rb : Nat) (l : List G) (F : List Nat) (i : Int) (w : World) (g : G) (h : RefRep w rb l F) (hl : l.length < 4096) (hi : 0 ≤ i) (hg : l[i.toNat]? = some g) (hgb : g.b ≠ []) (hgl : g.b.length ≤ 4096) :
    Calls Try.prog 26 #[.pointer (some ⟨rb, 0, none⟩), .int .i64 i] w (Moved (fun w' F' => RefRep w' rb (l ++ [g]) F') (.bool true) w F) := by
  have H := hide h
  obtain ⟨i, rfl⟩ := Int.eq_ofNat_of_zero_le hi
  rw [show ((i : Int)).toNat = i from by omega] at hg
  have hil := (List.getElem?_eq_some_iff.1 hg).1
  obtain ⟨Lv, Bv, L, h, _⟩ := h
  obtain ⟨lb, lc, bb, bc, xb, xc, t, rfl, rfl, _, _, _, p0, p1, p2, _, ho, hlb, hbb, hxb, hrb⟩ := h.get hg hgb
  obtain ⟨_, _, c0, c1, _⟩ := h.heads
  have hin : decide (0 ≤ (i : Int) ∧ (i : Int) < l.length) = true := by simp; omega
  have hrd := ownsRow_rd ho
  have s0 : ∀ w', Below w.heap.size w w' → w'.cell? ⟨rb, 0, none⟩ = some (.slice (some ⟨lb, 0, none⟩) l.length lc) := fun w' h => (h.cell (p := ⟨rb, 0, none⟩) hrb).trans c0
  have s1 : ∀ w', Below w.heap.size w w' → w'.cell? ⟨rb, 1, none⟩ = some (.slice (some ⟨bb, 0, none⟩) l.length bc) := fun w' h => (h.cell (p := ⟨rb, 1, none⟩) hrb).trans c1
  have s2 : ∀ w', Below w.heap.size w w' → w'.cell? ⟨lb, i * 2, none⟩ = some (.int .u8 g.to) := fun w' h => (h.cell (p := ⟨lb, i * 2, none⟩) hlb).trans p0
  have s3 : ∀ w', Below w.heap.size w w' → w'.cell? ⟨lb, i * 2 + 1, none⟩ = some (.slice (some ⟨xb, 0, none⟩) g.b.length xc) := fun w' h => (h.cell (p := ⟨lb, i * 2 + 1, none⟩) hlb).trans p1
  have s4 : ∀ w', Below w.heap.size w w' → w'.cell? ⟨bb, i, none⟩ = some (.bool g.bent) := fun w' h => (h.cell (p := ⟨bb, i, none⟩) hbb).trans p2
  have i1 : (0 : Int) ≤ (i : Int) := by omega
  have i2 : (i : Int) < (l.length : Int) := by omega
  have HRD := hide hrd; have HIN := hide hin; have HGB := hide hgb
  clear h ho hrd p0 p1 p2 hin hg hgb
  go_enter Try.func26, Try.ntmps26
  go_wp2_with fail
  refine (ref_is rb l F _ w H.out (by omega)).mono ?_
  rintro e w' ⟨rfl, rfl⟩
  rw [HIN.out]
  go_wp2_with fail
  refine wp_region_new 24 44 (by kernel_rfl) (by kernel_rfl) rfl (by kernel_rfl) (fun w' => Below w.heap.size w w') (Below.refl _ _) (fun w w' h1 h2 => h2.trans (h1.mono h2.size)) (fun h => h.drew) ?_
  simp only [List.take_succ_cons, List.take_zero, List.drop_succ_cons, List.drop_zero]
  iterate 24 (refine Hav.read (e := ?_) (fun v => by rfl) (fun v w' hS hF => ?_) ?_; rotate_left; (first | (go_simp; done) | (go_simp; with_reducible rfl)); go_simp)
  refine Hav.fin (fun v w' hS hF => ?_)
  have HH := hide (H.out.below hS); have HR := hide (HRD.out.low hS)
  have hCw := hide (Chg.of_below (F := F) hS)
  clear hF hS s0 s1 s2 s3 s4
  go_wp2_with fail
  refine (ref_add rb l F g.to ⟨xb, 0, none⟩ xc g.b g.bent w' HH.out (by omega) HR.out (by have := HGB.out; exact List.length_pos_iff.2 this) hgl).mono ?_
  rintro e w2 ⟨rfl, F', hr, hc⟩
  have HM := hide (⟨hr, hCw.out.trans hc⟩ : _ ∧ _)
  clear hr hc
  go_wp2
  go_ret
  exact ⟨rfl, F', HM.out.1, HM.out.2⟩

set_option maxRecDepth 100000 in
set_option maxHeartbeats 800000 in
theorem ref_twice_no (rb : Nat) (l : List G) (F : List Nat) (i : Int) (w : World) (h : RefRep w rb l F) (hl : l.length ≤ 4096) (hno : i < 0 ∨ l.length ≤ i ∨ l.length = 4096) :
    Calls Try.prog 26 #[.pointer (some ⟨rb, 0, none⟩), .int .i64 i] w fun e w' => e = .returned (.bool false) ∧ w = w' := by
  have H := hide h
  obtain ⟨Lv, Bv, L, h, _⟩ := h
  obtain ⟨⟨a0, c1, rfl⟩, _, c0, _⟩ := h.heads
  clear h
  by_cases hr : 0 ≤ i ∧ i < l.length
  · have h4 : 4096 ≤ l.length := by omega
    have HIN := hide (decide_eq_true hr)
    clear hr
    go_enter Try.func26, Try.ntmps26
    go_wp2_with fail
    refine (ref_is rb l F _ w H.out (by omega)).mono ?_
    rintro e w' ⟨rfl, rfl⟩
    rw [HIN.out]
    go_wp2
    go_ret
    exact ⟨rfl, rfl⟩
  · have HIN := hide (decide_eq_false hr)
    clear hr
    go_enter Try.func26, Try.ntmps26
    go_wp2_with fail
    refine (ref_is rb l F _ w H.out (by omega)).mono ?_
    rintro e w' ⟨rfl, rfl⟩
    rw [HIN.out]
    go_wp2
    go_ret
    exact ⟨rfl, rfl⟩

set_option maxHeartbeats 800000 in
theorem ref_bent (rb : Nat) (l : List G) (F : List Nat) (i : Int) (w : World) (g : G) (h : RefRep w rb l F) (hl : l.length ≤ 4096) (hi : 0 ≤ i) (hg : l[i.toNat]? = some g) (hgb : g.b ≠ []) :
    Calls Try.prog 18 #[.pointer (some ⟨rb, 0, none⟩), .int .i64 i] w fun e w' => e = .returned (.bool g.bent) ∧ w = w' := by
  have H := hide h
  obtain ⟨i, rfl⟩ := Int.eq_ofNat_of_zero_le hi
  rw [show ((i : Int)).toNat = i from by omega] at hg
  have hil := (List.getElem?_eq_some_iff.1 hg).1
  obtain ⟨Lv, Bv, L, h, _⟩ := h
  obtain ⟨lb, lc, bb, bc, xb, xc, t, rfl, rfl, _, _, _, p0, p1, p2, _, ho, hlb, hbb, hxb, hrb⟩ := h.get hg hgb
  obtain ⟨_, _, c0, c1, _⟩ := h.heads
  have HIN := hide (show decide (0 ≤ (i : Int) ∧ (i : Int) < l.length) = true by simp; omega)
  clear h ho hg hgb
  go_enter Try.func18, Try.ntmps18
  go_wp2_with fail
  refine (ref_is rb l F _ w H.out (by omega)).mono ?_
  rintro e w' ⟨rfl, rfl⟩
  rw [HIN.out]
  go_wp2
  go_ret
  exact ⟨rfl, rfl⟩
set_option maxHeartbeats 800000 in
theorem ref_bent_no (rb : Nat) (l : List G) (F : List Nat) (i : Int) (w : World) (h : RefRep w rb l F) (hl : l.length ≤ 4096) (hno : i < 0 ∨ l.length ≤ i) :
    Calls Try.prog 18 #[.pointer (some ⟨rb, 0, none⟩), .int .i64 i] w fun e w' => e = .returned (.bool false) ∧ w = w' := by
  have HIN := hide (show decide (0 ≤ i ∧ i < l.length) = false by rw [decide_eq_false]; omega)
  go_enter Try.func18, Try.ntmps18
  go_wp2_with fail
  refine (ref_is rb l F _ w h (by omega)).mono ?_
  rintro e w' ⟨rfl, rfl⟩
  rw [HIN.out]
  go_wp2
  go_ret
  exact ⟨rfl, rfl⟩
end Go.Proofs.Ytipobpcafkhknaa
