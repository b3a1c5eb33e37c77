/-
  The walk of the law NetTwice: the way on which things are sent.
-/
import Derived.Test.YtipobpcafkhknaaNetK
namespace Go.Proofs.Ytipobpcafkhknaa
open Go.RowKit
set_option linter.unusedSimpArgs false
set_option linter.unusedVariables false

theorem Rd.low {w w' : World} {x : Value} {size m : Nat} {xs : List Value} (h : Rd w x size m xs) (hb : Below w.heap.size w w') : Rd w' x size m xs := h.kept fun b _ hlt => hb.block b hlt
theorem RdItems.low {w w' : World} {size : Nat} {v : Value} {L : List Item} (h : RdItems w size v L) (hb : Below w.heap.size w w') : RdItems w' size v L := h.same fun k hk _ => hb.block k hk
theorem NetAt.low {W w w' : World} {nb : Nat} {l : List G} (h : NetAt W nb l w) (hb : Below w.heap.size w w') : NetAt W nb l w' := by
  obtain ⟨F, hr, hf, hw⟩ := h
  exact ⟨F, hr.below hb, hf, hw.trans (hb.mono hw.size)⟩
theorem NetAt.base {W w : World} {nb : Nat} {l : List G} (h : NetAt W nb l w) : Below W.heap.size W w := by
  obtain ⟨F, _, _, hw⟩ := h
  exact hw

theorem opCells {w : World} {v : Value} {L : List Item} {i : Nat} {t : Item} (h : RdItems w 6 v L) (hop : IsOp t) (hi : L[i]? = some t) :
    ∃ b off c k to i' at_ x ax cx, v = .slice (some ⟨b, off, none⟩) L.length c ∧ t.x = .slice ax t.b.length cx ∧ t.pre = opPre k to ∧ t.post = opPost i' at_ x ∧ 0 ≤ k ∧ k ≤ 255 ∧ 0 ≤ to ∧ to ≤ 255 ∧ -9223372036854775808 ≤ i' ∧ i' ≤ 9223372036854775807 ∧ -9223372036854775808 ≤ at_ ∧ at_ ≤ 9223372036854775807 ∧ 0 ≤ x ∧ x ≤ 255 ∧
      w.cell? ⟨b, off + i * 6, none⟩ = some (.int .u8 k) ∧ w.cell? ⟨b, off + i * 6 + 1, none⟩ = some (.int .u8 to) ∧ w.cell? ⟨b, off + i * 6 + 2, none⟩ = some (.slice ax t.b.length cx) ∧ w.cell? ⟨b, off + i * 6 + 3, none⟩ = some (.int .i64 i') ∧
      w.cell? ⟨b, off + i * 6 + 4, none⟩ = some (.int .i64 at_) ∧ w.cell? ⟨b, off + i * 6 + 5, none⟩ = some (.int .u8 x) ∧ Rd w (.slice ax t.b.length cx) 1 t.b.length (bcells t.b) ∧ b < w.heap.size := by
  obtain ⟨b, off, c, rfl, hc, hr, hb⟩ := h.get hi (by omega)
  obtain ⟨k, to, i', at_, x, e1, e2, q⟩ := hop
  obtain ⟨ax, cx, hx⟩ := hr.head
  have hcs : t.cells = [.int .u8 k, .int .u8 to, .slice ax t.b.length cx, .int .i64 i', .int .i64 at_, .int .u8 x] := by simp [Item.cells, e1, e2, opPre, opPost, hx]
  refine ⟨b, off, c, k, to, i', at_, x, ax, cx, rfl, hx, e1, e2, q.1, q.2.1, q.2.2.1, q.2.2.2.1, q.2.2.2.2.1, q.2.2.2.2.2.1, q.2.2.2.2.2.2.1, q.2.2.2.2.2.2.2.1, q.2.2.2.2.2.2.2.2.1, q.2.2.2.2.2.2.2.2.2, ?_, ?_, ?_, ?_, ?_, ?_, hx ▸ hr, hb⟩
  · have := hc 0 (by omega); rw [hcs] at this; exact this
  · have := hc 1 (by omega); rw [hcs] at this; rw [Nat.add_assoc]; exact this
  · have := hc 2 (by omega); rw [hcs] at this; rw [Nat.add_assoc]; exact this
  · have := hc 3 (by omega); rw [hcs] at this; rw [Nat.add_assoc]; exact this
  · have := hc 4 (by omega); rw [hcs] at this; rw [Nat.add_assoc]; exact this
  · have := hc 5 (by omega); rw [hcs] at this; rw [Nat.add_assoc]; exact this

set_option maxRecDepth 100000 in
set_option maxHeartbeats 3200000 in
theorem law_twice_goes (xb : Value) (b : List UInt8) (to : Int) (v : Value) (L : List Item) (W : World) (hx : Rd W xb 1 b.length (bcells b)) (hto : 0 ≤ to) (hto2 : to ≤ 255) (hL : RdItems W 6 v L) (hop : ∀ t ∈ L, IsOp t) (hl : L.length ≤ 9223372036854775807) (hlb : ∀ t ∈ L, t.b.length ≤ 9223372036854775807)
    (hh : heavyB L = false) (h1 : 1 ≤ b.length) (h2 : b.length ≤ 4096) :
    Calls Try.prog 3 #[xb, .int .u8 to, v] W fun e w' => e = .returned (.bool true) ∧ Below W.heap.size W w' := by
  obtain ⟨ad, c0, rfl⟩ := rd_cap hx (by omega)
  obtain ⟨av, cv, rfl⟩ := hL.row.head
  have h80 : L.length ≤ 80 := by simp [heavyB] at hh; omega
  have HX := hide hx; have HL := hide hL; have HO := hide hop; have HB := hide hlb; have HH := hide hh
  clear hL hop hlb hx hh
  go_enter Try.func3, Try.ntmps3
  go_wp2_with fail
  refine (law_heavy _ L _ HL.out HO.out hl HB.out).mono ?_
  rintro e w' ⟨rfl, rfl⟩
  rw [HH.out]
  go_wp2_with fail
  refine (law_known _).mono ?_
  rintro e w1 ⟨rfl, hb1⟩
  go_wp2_with fail
  refine (net_new _).mono ?_
  rintro e w2 ⟨rfl, rfl⟩
  obtain ⟨F, hr, hf, hb⟩ := net_new_at w1
  obtain ⟨nb, hnb⟩ : ∃ nb, nb = w1.heap.size := ⟨_, rfl⟩
  have n0 : NetAt W nb [] (w1.alloc (.cells #[.slice none 0 0] 50)) := ⟨F, by rw [hnb]; exact hr, fun k hk => Nat.le_trans hb1.size (hf k hk), hb1.trans (hb.mono hb1.size)⟩
  have hnbW : W.heap.size ≤ nb := by rw [hnb]; exact hb1.size
  have HN := hide n0
  rw [← hnb]
  clear hr hf hb hb1 n0 hnb
  generalize w1.alloc (.cells #[.slice none 0 0] 50) = w2 at *
  clear F w1
  go_wp2_with fail
  have hto3 : 0 ≤ to % 2 := by omega
  have hto4 : to % 2 ≤ 1 := by omega
  obtain ⟨t2, ht2⟩ : ∃ t, t = to % 2 := ⟨_, rfl⟩
  have HT := hide ht2
  rw [← ht2] at hto3 hto4 ⊢
  clear ht2
  obtain ⟨F, hr, hf, hbel⟩ := HN.out
  refine (net_send nb [] F t2 ad b.length c0 b w2 hr hto3 hto4 (HX.out.low hbel) (by omega) (by omega) (by simp)).mono ?_
  rintro e w3 ⟨rfl, F', hr', hc⟩
  have n3 := NetAt.step hf hbel hr' hc
  have HN3 := hide n3
  clear n3 hr hf hbel hr' hc HN F F'
  go_wp2_with fail
  obtain ⟨F, hr, hf, hbel⟩ := HN3.out
  refine (net_twice nb _ F 0 w3 ⟨t2, b, false⟩ hr (by simp) (by omega) (by simp) (by simpa using h2)).mono ?_
  rintro e w4 ⟨rfl, F', hr', hc⟩
  have n4 := NetAt.step hf hbel hr' hc
  have HN4 : Hid (NetAt W nb ([⟨t2, b, false⟩, ⟨t2, b, false⟩] ++ []) w4) := n4
  clear n4 hr hf hbel hr' hc HN3 F F'
  go_wp2
  go_loopw [10] (fun i wr => ∃ (k : Nat) (rest : List G), k ≤ L.length ∧ i = .int .i64 k ∧ rest.length ≤ k ∧ Hid (NetAt W nb ([⟨t2, b, false⟩, ⟨t2, b, false⟩] ++ rest) wr)) (fun i _ => L.length - (intOf i).toNat)
  case atStart => exact ⟨0, [], Nat.zero_le _, rfl, by simp, HN4⟩
  case round =>
    obtain ⟨k, rest, hk, rfl, hrl, hN⟩ := hrel
    by_cases hlt : k < L.length
    · have hg : L[k]? = some L[k] := List.getElem?_eq_getElem hlt
      obtain ⟨t, ht⟩ : ∃ t, t = L[k] := ⟨_, rfl⟩
      rw [← ht] at hg
      have hm := List.mem_of_getElem? hg
      have hLr := HL.out.low hN.out.base
      obtain ⟨bb, off, c, k', to', i', at_, x, ax, cx, hv, hx, _, _, p1, p2, p3, p4, _, _, _, _, _, _, q0, q1, q2, q3, q4, q5, hrd, hbb⟩ := opCells hLr (HO.out t hm) hg
      simp only [Value.slice.injEq, true_and] at hv
      obtain ⟨rfl, rfl⟩ := hv
      have htb := HB.out t hm
      have HRD := hide hrd
      have s1 : ∀ w', Below wr.heap.size wr w' → w'.cell? ⟨bb, off + k * 6 + 1, none⟩ = some (.int .u8 to') := fun w' h => (h.cell (p := ⟨bb, off + k * 6 + 1, none⟩) hbb).trans q1
      have s2 : ∀ w', Below wr.heap.size wr w' → w'.cell? ⟨bb, off + k * 6 + 2, none⟩ = some (.slice ax t.b.length cx) := fun w' h => (h.cell (p := ⟨bb, off + k * 6 + 2, none⟩) hbb).trans q2
      have i1 : (0 : Int) ≤ (k : Int) := by omega
      have i2 : (k : Int) < (L.length : Int) := by omega
      clear hrd hLr q0 q1 q2 q3 q4 q5 hx hg ht hm
      go_wp2_with fail
      refine wp_region_new 11 110 (by kernel_rfl) (by kernel_rfl) rfl (by kernel_rfl) (fun w' => Below wr.heap.size wr w') (Below.refl _ _) (fun w w' h1 h2 => h2.trans (h1.mono h2.size)) (fun h => h.drew) ?_
      simp only [List.take_succ_cons, List.take_zero, List.drop_succ_cons, List.drop_zero]
      iterate 11 (refine Hav.read (e := ?_) (fun v => by rfl) (fun v w' hS hF => ?_) ?_; rotate_left; (first | (go_simp; done) | (go_simp; with_reducible rfl)); go_simp)
      refine Hav.fin (fun v w' hS hF => ?_)
      have hN' := hN.out.low hS
      have hrd' := HRD.out.low hS
      have HN' := hide hN'
      have HRD' := hide hrd'
      clear hF hN' hrd' hS s1 s2 HRD hN
      go_wp2_with fail
      refine (net_send_any W nb _ to' _ t.b w' HN'.out p3 HRD'.out htb (by simp; omega)).mono ?_
      rintro e w5 ⟨r, rfl, rest', hr1, _, hN5⟩
      rw [List.append_assoc] at hN5
      have HN5 := hide hN5
      clear hN5
      go_wp2
      go_roundw
      case rel => exact ⟨k + 1, rest ++ rest', by omega, by go_num, by simp; omega, HN5⟩
      case measure => simp [intOf]; omega
    · have hll : ([(⟨t2, b, false⟩ : G), ⟨t2, b, false⟩] ++ rest).length ≤ 4096 := by simp; omega
      have HLL := hide hll
      clear hll
      go_wp2_with fail
      obtain ⟨F, hr, hf, hbel⟩ := hN.out
      refine (net_take nb _ F 1 wr ⟨t2, b, false⟩ hr HLL.out (by omega) (by simp)).mono ?_
      rintro e w5 ⟨gx, cx, F1, rfl, hr1, hown1, hc1, hnd1⟩
      have hb5 : Below W.heap.size W w5 := hbel.trans (hc1.below hbel.size hf)
      have hf1 : ∀ k ∈ gx :: F1, W.heap.size ≤ k := hc1.up hbel.size hf
      have HR1 := hide hr1; have HOX := hide hown1; have HB5 := hide hb5; have HF1 := hide hf1; have HND1 := hide hnd1
      clear hr hf hbel hr1 hown1 hc1 hnd1 hb5 hf1 hN F
      go_wp2_with fail
      refine (net_take nb _ F1 0 _ ⟨t2, b, false⟩ (HR1.out.alloc _) (by have := HLL.out; simp at this ⊢; omega) (by omega) (by simp)).mono ?_
      rintro e w6 ⟨gy, cy, F2, rfl, hr2, hown2, hc2, hnd2⟩
      have hlt1 := HR1.out.lt
      have hx0 := hc2.cellAt (b := w5.heap.size) 0 (by simp) (fun h => by have := hlt1 _ h; omega)
      have hx1 := hc2.cellAt (b := w5.heap.size) 1 (by simp) (fun h => by have := hlt1 _ h; omega)
      obtain ⟨k0, _⟩ := hx0
      obtain ⟨k1, _⟩ := hx1
      simp [go_sem] at k0 k1
      have hb6 : Below W.heap.size W w6 := (HB5.out.alloc HB5.out.size _).trans (hc2.below (by have := HB5.out.size; simp; omega) (fun k hk => HF1.out k (List.mem_cons_of_mem _ hk)))
      have hgx : gx < w5.heap.size := (HOX.out.lt gx rfl).2
      have hox : w6.ownsRow 0 5 1 (.slice (some ⟨gx, 0, none⟩) b.length cx) b.length (bcells b) := ownsRow_same HOX.out fun q hq => by
        simp [Value.ownBlock] at hq
        subst hq
        rw [hc2.block gx (by simp; omega) (List.nodup_cons.1 HND1.out).1, Below.heap_alloc _ _ _ hgx]
      have hsz6 : w5.heap.size < w6.heap.size := by have := hc2.size; simp at this; omega
      have HB6 := hide hb6; have HX6 := hide (ownsRow_rd hox); have HY6 := hide (ownsRow_rd hown2)
      clear hr2 hown2 hc2 hnd2 hlt1 hb6 hox HR1 HOX HB5 HF1 HND1 F1 F2
      have v1 : ∀ o, (convert 22 9 (.slice (some ⟨gx, 0, none⟩) b.length cx)).run Try.prog (w6.alloc o) = .ok (.string ⟨b.toArray⟩) (w6.alloc o) := fun o => convert_rd b _ _ (HX6.out.alloc o)
      have v2 : ∀ o, (convert 22 9 (.slice (some ⟨gy, 0, none⟩) b.length cy)).run Try.prog (w6.alloc o) = .ok (.string ⟨b.toArray⟩) (w6.alloc o) := fun o => convert_rd b _ _ (HY6.out.alloc o)
      have v3 : ∀ o, (convert 22 9 (.slice (some ad) b.length c0)).run Try.prog (w6.alloc o) = .ok (.string ⟨b.toArray⟩) (w6.alloc o) := fun o => convert_rd b _ _ ((HX.out.low HB6.out).alloc o)
      have ka0 : ∀ o, (w6.alloc o).cell? ⟨w5.heap.size, 0, none⟩ = some (.int .u8 t2) := fun o => by rw [World.cell?_alloc_past _ _ _ hsz6]; exact k0
      have ka1 : ∀ o, (w6.alloc o).cell? ⟨w5.heap.size, 1, none⟩ = some (.slice (some ⟨gx, 0, none⟩) b.length cx) := fun o => by rw [World.cell?_alloc_past _ _ _ hsz6]; exact k1
      have HT2 := HT.out
      go_wp2_with fail
      go_ret
      exact ⟨rfl, HB6.out.alloc HB6.out.size _⟩
end Go.Proofs.Ytipobpcafkhknaa
