/-
  The reference's network: Bend, Take, Drop.
-/
import Derived.Test.YtipobpcafkhknaaNetT
namespace Go.Proofs.Ytipobpcafkhknaa
open Go.RowKit
set_option linter.unusedVariables false
set_option linter.unusedSimpArgs false

/-- a byte and the mark are written -/
theorem ref_bend_close {w : World} {rb i k xb xc bb bc : Nat} {l : List G} {Lv : Value} {L : List Item} {g : G} {t : Item} {y : UInt8} (h : RefAt w rb l Lv (.slice (some ⟨bb, 0, none⟩) l.length bc) L)
    (hi : l[i]? = some g) (ht : L[i]? = some t) (hk : t.key = g.key) (hx : t.x = .slice (some ⟨xb, 0, none⟩) g.b.length xc) :
    ∃ F', RefRep ((w.setCell ⟨xb, k, none⟩ (.int .u8 y.toNat)).setCell ⟨bb, i, none⟩ (.bool true)) rb (l.set i { g with b := g.b.set k y, bent := true }) F' ∧
      Chg (refFp rb (.slice (some ⟨bb, 0, none⟩) l.length bc) Lv L) F' w ((w.setCell ⟨xb, k, none⟩ (.int .u8 y.toNat)).setCell ⟨bb, i, none⟩ (.bool true)) := by
  have hk' := hk
  simp only [Item.key, G.key, Prod.mk.injEq] at hk'
  obtain ⟨k1, k2, k3⟩ := hk'
  rw [← k3] at hx
  obtain ⟨hI, hC⟩ := h.items.setByte ht hx k y
  have hxm : xb ∈ itFp Lv L := List.mem_append_right _ (List.mem_flatMap.2 ⟨t, List.mem_of_getElem? ht, by simp [hx, Value.ownBlock]⟩)
  obtain ⟨hb1, hb2⟩ := h.sepB bb rfl
  have hxr : xb ≠ rb := fun e => h.sepL (e ▸ hxm)
  have hxb : bb ≠ xb := fun e => hb1 (e ▸ hxm)
  have hfp : itFp Lv (L.set i { t with b := t.b.set k y }) = itFp Lv L := itFp_set Lv L i t _ ht
  refine ⟨_, ⟨Lv, .slice (some ⟨bb, 0, none⟩) l.length bc, L.set i { t with b := t.b.set k y }, ⟨?_, hI.same fun q hq => heap_set_ne fun e => hb1 (by rw [hfp] at hq; exact e ▸ hq), ?_, ?_, by rw [hfp]; exact h.sepL, by rw [hfp]; exact h.sepB⟩, rfl⟩, ⟨rfl, rfl, rfl, by simp [World.setCell], fun q hq hqn => ?_, fun q hq => ?_⟩⟩
  · rw [heap_set_ne (Ne.symm hb2), heap_set_ne (Ne.symm hxr)]
    exact h.cells
  · rw [List.map_set, List.map_set, h.key]
    congr 1
    simp [Item.key, G.key, k1, k2, k3]
  · have h3 := ownsRow_same (w' := w.setCell ⟨xb, k, none⟩ (.int .u8 y.toNat)) h.row fun b hb => heap_set_ne fun e => by
      simp only [Value.ownBlock, Option.some.injEq] at hb
      omega
    have h4 := (h3.stored i (.bool true)).1
    simpa [bents, List.map_set] using h4
  · simp only [refFp, List.mem_cons, List.mem_append, not_or, Option.mem_toList, Value.ownBlock] at hqn
    rw [heap_set_ne (fun e => hqn.2.1 (by rw [e])), heap_set_ne (fun e => hqn.2.2 (by rw [e]; exact hxm))]
  · left
    simpa [refFp, hfp] using hq

set_option maxRecDepth 100000 in
set_option maxHeartbeats 1600000 in
theorem ref_bend (rb : Nat) (l : List G) (F : List Nat) (i k : Int) (x : UInt8) (w : World) (g : G) (h : RefRep w rb l F) (hl : l.length ≤ 4096) (hi : 0 ≤ i) (hg : l[i.toNat]? = some g) (hgb : g.b ≠ []) (hgl : g.b.length ≤ 4096)
    (hk : 0 ≤ k) (hk' : k < g.b.length) (hx : x ≠ 0) :
    Calls Try.prog 27 #[.pointer (some ⟨rb, 0, none⟩), .int .i64 i, .int .i64 k, .int .u8 x.toNat] w
      (Moved (fun w' F' => RefRep w' rb (l.set i.toNat { g with b := g.b.set k.toNat (g.b.getD k.toNat 0 ^^^ x), bent := true }) F') (.bool true) w F) := by
  have H := hide h
  obtain ⟨i, rfl⟩ := Int.eq_ofNat_of_zero_le hi
  obtain ⟨k, rfl⟩ := Int.eq_ofNat_of_zero_le hk
  rw [show ((i : Int)).toNat = i from by omega] at hg ⊢
  rw [show ((k : Int)).toNat = k from by omega]
  have hil := (List.getElem?_eq_some_iff.1 hg).1
  have hkl : k < g.b.length := by omega
  obtain ⟨Lv, Bv, L, h, rfl⟩ := h
  obtain ⟨lb, lc, bb, bc, xb, xc, t, rfl, rfl, ht, hkey, htx, p0, p1, p2, fb, ho, hlb, hbb, hxb, hrb⟩ := h.get hg hgb
  obtain ⟨_, _, c0, c1, _⟩ := h.heads
  have ck : w.cell? ⟨xb, k, none⟩ = some (.int .u8 (g.b.getD k 0).toNat) := by
    rw [ho.cellAt k (by omega)]
    simp [bcells, List.getD, List.getElem?_eq_getElem hkl]
  have fk : w.frozen? ⟨xb, k, none⟩ = false := ho.frozenAt k
  obtain ⟨y0, hy0⟩ : ∃ y, y = g.b.getD k 0 := ⟨_, rfl⟩
  rw [← hy0] at ck ⊢
  have hmem : xb ∈ itFp (.slice (some ⟨lb, 0, none⟩) l.length lc) L := List.mem_append_right _ (List.mem_flatMap.2 ⟨t, List.mem_of_getElem? ht, by simp [htx, Value.ownBlock]⟩)
  have hnr : rb ≠ xb := fun e => h.sepL (e ▸ hmem)
  have hnl : lb ≠ xb := fun e => by
    have := (List.nodup_append.1 h.items.nodup).2.2 lb (by simp [Value.ownBlock]) xb (List.mem_flatMap.2 ⟨t, List.mem_of_getElem? ht, by simp [htx, Value.ownBlock]⟩)
    exact this e
  have hnb : bb ≠ xb := fun e => (h.sepB bb rfl).1 (e ▸ hmem)
  have hclose : ∀ w', Below w.heap.size w w' → ∃ F', RefRep ((w'.setCell ⟨xb, k, none⟩ (.int .u8 (y0 ^^^ x).toNat)).setCell ⟨bb, i, none⟩ (.bool true)) rb (l.set i { g with b := g.b.set k (y0 ^^^ x), bent := true }) F' ∧
      Chg (refFp rb (.slice (some ⟨bb, 0, none⟩) l.length bc) (.slice (some ⟨lb, 0, none⟩) l.length lc) L) F' w ((w'.setCell ⟨xb, k, none⟩ (.int .u8 (y0 ^^^ x).toNat)).setCell ⟨bb, i, none⟩ (.bool true)) := fun w' hb => by
    obtain ⟨F', q1, q2⟩ := ref_bend_close (k := k) (y := y0 ^^^ x) (h.same (w' := w') fun q hq => hb.block q (h.lt q hq)) hg ht hkey htx
    exact ⟨F', q1, (Chg.of_below hb).trans q2⟩
  have HCL := hide hclose
  have hxb2 : x.toNat < 256 := x.toNat_lt
  have hyb : y0.toNat < 256 := y0.toNat_lt
  have hx0 : ((x.toNat : Int) == 0) = false := by
    simp only [beq_eq_false_iff_ne, ne_eq]
    intro e
    exact hx (UInt8.toNat.inj (by simp; omega))
  have hval : (((y0 ^^^ x).toNat : Nat) : Int) = bits .xor .u8 (y0.toNat : Int) (x.toNat : Int) := by rw [UInt8.toNat_xor]; exact (u8_xor_nat _ _ hyb hxb2).symm
  have HV := hide hval
  have HIN := hide (show decide (0 ≤ (i : Int) ∧ (i : Int) < l.length) = true by simp; omega)
  have s0 : ∀ w', Below w.heap.size w w' → w'.cell? ⟨rb, 0, none⟩ = some (.slice (some ⟨lb, 0, none⟩) l.length lc) := fun w' h => (h.cell (p := ⟨rb, 0, none⟩) hrb).trans c0
  have s1 : ∀ w', Below w.heap.size w w' → w'.cell? ⟨rb, 1, none⟩ = some (.slice (some ⟨bb, 0, none⟩) l.length bc) := fun w' h => (h.cell (p := ⟨rb, 1, none⟩) hrb).trans c1
  have s3 : ∀ w', Below w.heap.size w w' → w'.cell? ⟨lb, i * 2 + 1, none⟩ = some (.slice (some ⟨xb, 0, none⟩) g.b.length xc) := fun w' h => (h.cell (p := ⟨lb, i * 2 + 1, none⟩) hlb).trans p1
  have s4 : ∀ w', Below w.heap.size w w' → w'.cell? ⟨bb, i, none⟩ = some (.bool g.bent) := fun w' h => (h.cell (p := ⟨bb, i, none⟩) hbb).trans p2
  have s5 : ∀ w', Below w.heap.size w w' → w'.frozen? ⟨bb, i, none⟩ = false := fun w' h => (h.frozen (p := ⟨bb, i, none⟩) hbb).trans fb
  have s6 : ∀ w', Below w.heap.size w w' → w'.cell? ⟨xb, k, none⟩ = some (.int .u8 y0.toNat) := fun w' h => (h.cell (p := ⟨xb, k, none⟩) hxb).trans ck
  have s7 : ∀ w', Below w.heap.size w w' → w'.frozen? ⟨xb, k, none⟩ = false := fun w' h => (h.frozen (p := ⟨xb, k, none⟩) hxb).trans fk
  have i1 : (0 : Int) ≤ (i : Int) := by omega
  have i2 : (i : Int) < (l.length : Int) := by omega
  have i3 : (0 : Int) ≤ (k : Int) := by omega
  have i4 : (k : Int) < (g.b.length : Int) := by omega
  clear h ho hclose hval p0 hg hgb ht hkey htx hy0 hmem
  go_enter Try.func27, Try.ntmps27
  go_wp2_with fail
  refine (ref_is rb l _ _ w H.out (by omega)).mono ?_
  rintro e w' ⟨rfl, rfl⟩
  rw [HIN.out]
  go_wp2_with fail
  refine wp_region_new 23 65 (by kernel_rfl) (by kernel_rfl) rfl (by kernel_rfl) (fun w' => Below w.heap.size w w') (Below.refl _ _) (fun w w' h1 h2 => h2.trans (h1.mono h2.size)) (fun h => h.drew) ?_
  simp only [List.take_succ_cons, List.take_zero, List.drop_succ_cons, List.drop_zero]
  iterate 23 (refine Hav.read (e := ?_) (fun v => by rfl) (fun v w' hS hF => ?_) ?_; rotate_left; (first | (go_simp; done) | (go_simp; with_reducible rfl)); go_simp)
  refine Hav.fin (fun v w' hS hF => ?_)
  have z0 := s0 w' hS
  have z1 := s1 w' hS
  have z4 := s4 w' hS
  have z5 := s5 w' hS
  have z6 := s6 w' hS
  have z7 := s7 w' hS
  obtain ⟨F', q1, q2⟩ := HCL.out w' hS
  rw [HV.out] at q1 q2
  have HQ := hide (⟨q1, q2⟩ : _ ∧ _)
  clear hF hS s0 s1 s3 s4 s5 s6 s7 q1 q2 c0 c1 p1 p2 fb ck fk
  go_wp2
  go_ret
  exact ⟨rfl, F', HQ.out.1, HQ.out.2⟩

set_option maxRecDepth 100000 in
set_option maxHeartbeats 800000 in
theorem ref_bend_none (rb : Nat) (l : List G) (F : List Nat) (i k x : Int) (w : World) (h : RefRep w rb l F) (hl : l.length ≤ 4096) (hno : i < 0 ∨ l.length ≤ i) :
    Calls Try.prog 27 #[.pointer (some ⟨rb, 0, none⟩), .int .i64 i, .int .i64 k, .int .u8 x] w fun e w' => e = .returned (.bool false) ∧ w = w' := by
  have HIN := hide (show decide (0 ≤ i ∧ i < l.length) = false by rw [decide_eq_false]; omega)
  go_enter Try.func27, Try.ntmps27
  go_wp2_with fail
  refine (ref_is rb l F _ w h (by omega)).mono ?_
  rintro e w' ⟨rfl, rfl⟩
  rw [HIN.out]
  go_wp2
  go_ret
  exact ⟨rfl, rfl⟩
set_option maxRecDepth 100000 in
set_option maxHeartbeats 1600000 in
theorem ref_bend_no (rb : Nat) (l : List G) (F : List Nat) (i k x : Int) (w : World) (g : G) (h : RefRep w rb l F) (hl : l.length ≤ 4096) (hi : 0 ≤ i) (hg : l[i.toNat]? = some g) (hgb : g.b ≠ []) (hgl : g.b.length ≤ 4096)
    (hk : k < 0 ∨ g.b.length ≤ k ∨ x = 0) :
    Calls Try.prog 27 #[.pointer (some ⟨rb, 0, none⟩), .int .i64 i, .int .i64 k, .int .u8 x] w fun e w' => e = .returned (.bool false) ∧ w = w' := by
  have H := hide h
  obtain ⟨i, rfl⟩ := Int.eq_ofNat_of_zero_le hi
  rw [show ((i : Int)).toNat = i from by omega] at hg
  have hil := (List.getElem?_eq_some_iff.1 hg).1
  obtain ⟨Lv, Bv, L, h, rfl⟩ := h
  obtain ⟨lb, lc, bb, bc, xb, xc, t, rfl, rfl, ht, hkey, htx, p0, p1, p2, fb, ho, hlb, hbb, hxb, hrb⟩ := h.get hg hgb
  obtain ⟨_, _, c0, c1, _⟩ := h.heads
  have HIN := hide (show decide (0 ≤ (i : Int) ∧ (i : Int) < l.length) = true by simp; omega)
  clear h ho p0 p2 hg hgb ht hkey htx
  by_cases k0 : k < 0
  · go_enter Try.func27, Try.ntmps27
    go_wp2_with fail
    refine (ref_is rb l _ _ w H.out (by omega)).mono ?_
    rintro e w' ⟨rfl, rfl⟩
    rw [HIN.out]
    go_wp2
    go_ret
    exact ⟨rfl, rfl⟩
  obtain ⟨k, rfl⟩ := Int.eq_ofNat_of_zero_le (show 0 ≤ k by omega)
  by_cases k1 : g.b.length ≤ k
  · go_enter Try.func27, Try.ntmps27
    go_wp2_with fail
    refine (ref_is rb l _ _ w H.out (by omega)).mono ?_
    rintro e w' ⟨rfl, rfl⟩
    rw [HIN.out]
    go_wp2
    go_ret
    exact ⟨rfl, rfl⟩
  have hx : (x == 0) = true := by simp; omega
  clear hk
  go_enter Try.func27, Try.ntmps27
  go_wp2_with fail
  refine (ref_is rb l _ _ w H.out (by omega)).mono ?_
  rintro e w' ⟨rfl, rfl⟩
  rw [HIN.out]
  go_wp2
  go_ret
  exact ⟨rfl, rfl⟩
end Go.Proofs.Ytipobpcafkhknaa
