/-
  The reference's network: Take, Drop.
-/
import Derived.Test.YtipobpcafkhknaaNetU
import Derived.Test.YtipobpcafkhknaaNetP
namespace Go.Proofs.Ytipobpcafkhknaa
open Go.RowKit
set_option linter.unusedVariables false
set_option linter.unusedSimpArgs false

/-- what Take of the reference leaves -/
def RefTaken (w : World) (rb : Nat) (l : List G) (F : List Nat) (i : Nat) (g : G) (e : Ending) (w' : World) : Prop :=
  ∃ gb gc F', e = .returned (.tuple #[.agg #[.int .u8 g.to, .slice (some ⟨gb, 0, none⟩) g.b.length gc], .bool true]) ∧ RefRep w' rb (l.eraseIdx i) F' ∧ gb ∈ F ∧ gb ∉ F' ∧
    w'.ownsRow 0 5 1 (.slice (some ⟨gb, 0, none⟩) g.b.length gc) g.b.length (bcells g.b) ∧ Chg F F' w w'

set_option maxRecDepth 100000 in
set_option maxHeartbeats 800000 in
theorem ref_take_none (rb : Nat) (l : List G) (F : List Nat) (i : Int) (w : World) (h : RefRep w rb l F) (hl : l.length ≤ 4096) (hno : i < 0 ∨ l.length ≤ i) :
    Calls Try.prog 23 #[.pointer (some ⟨rb, 0, none⟩), .int .i64 i] w fun e w' => e = .returned (.tuple #[.agg #[.int .u8 0, .slice none 0 0], .bool false]) ∧ Below w.heap.size w w' := by
  have HIN := hide (show decide (0 ≤ i ∧ i < l.length) = false by rw [decide_eq_false]; omega)
  go_enter Try.func23, Try.ntmps23
  go_wp2_with fail
  refine (ref_is rb l F _ _ (h.below ((Below.refl _ _).alloc (Nat.le_refl _) _)) hl).mono ?_
  rintro e w' ⟨rfl, rfl⟩
  rw [HIN.out]
  go_wp2
  refine bodyPost_ret (v := .tuple #[.agg #[.int .u8 0, .slice none 0 0], .bool false]) (by simp [results, Try.results23, go_sem]) rfl ⟨rfl, ?_⟩
  repeat (first | exact (Below.refl _ _).alloc (Nat.le_refl _) _ | refine Below.setCell ?_ (by simp) _)

/-- the two lists, while they are being made -/
def wantB (l : List G) (i k : Nat) : List G := (l.take k).eraseIdx i
theorem wantB_skip {l : List G} {k : Nat} (hk : k < l.length) : wantB l k (k + 1) = wantB l k k := by
  unfold wantB
  rw [List.take_succ_eq_append_getElem hk, List.eraseIdx_append_of_length_le (by simp; omega), List.eraseIdx_of_length_le (l := l.take k) (by simp; omega)]
  have : k - (List.take k l).length = 0 := by simp; omega
  rw [this]
  simp
theorem wantB_next {l : List G} {iN k : Nat} (hk : k < l.length) (hne : k ≠ iN) : wantB l iN (k + 1) = wantB l iN k ++ [l[k]] := by
  unfold wantB
  rw [List.take_succ_eq_append_getElem hk]
  by_cases h : iN < k
  · rw [List.eraseIdx_append_of_lt_length (by simp; omega)]
  · rw [List.eraseIdx_append_of_length_le (by simp; omega), List.eraseIdx_of_length_le (l := l.take k) (by simp; omega)]
    congr 1
    have : 0 < iN - (List.take k l).length := by simp; omega
    rw [List.eraseIdx_of_length_le (by simp; omega)]
structure TakeRel (wX : World) (Lw : List Item) (l : List G) (iN k : Nat) (v u : Value) (wr : World) : Prop where
  rowL : wr.ownsRow wX.heap.size 33 2 v (wantL Lw iN k).length ((wantL Lw iN k).flatMap Item.cells)
  rowB : wr.ownsRow wX.heap.size 4 1 u (wantB l iN k).length (bents (wantB l iN k))
  apart : ∀ q, v.ownBlock = some q → u.ownBlock ≠ some q
  below : Below wX.heap.size wX wr

theorem ref_take_close {w WX wr W' : World} {rb i rk xb xc : Nat} {l : List G} {Lv Bv v u : Value} {L : List Item} {g : G} {t : Item} (h : RefAt w rb l Lv Bv L) (hg : l[i]? = some g) (ht : L[i]? = some t) (hx : t.x = .slice (some ⟨xb, 0, none⟩) g.b.length xc)
    (ho : w.ownsRow 0 5 1 (.slice (some ⟨xb, 0, none⟩) g.b.length xc) g.b.length (bcells g.b))
    (hb : Below w.heap.size w WX) (hT : TakeRel WX L l i l.length v u wr) (hrk : w.heap.size ≤ rk) (hrk2 : rk < WX.heap.size)
    (hos : W'.os = wr.os) (htp : W'.tape = wr.tape) (hop : W'.output = wr.output) (hsz : W'.heap.size = wr.heap.size) (hW : ∀ k, k ≠ rb → k ≠ rk → W'.heap[k]? = wr.heap[k]?) (hWr : W'.heap[rb]? = some (.cells #[v, u] 46 (0, 0))) :
    RefTaken w rb l (refFp rb Bv Lv L) i g (.returned (.tuple #[.agg #[.int .u8 g.to, .slice (some ⟨xb, 0, none⟩) g.b.length xc], .bool true])) W' := by
  obtain ⟨h1, h2, h3, h4⟩ := hT
  have hll := h.len
  have hlt := h.lt
  have hrb : rb < w.heap.size := hlt rb (by simp [refFp])
  have hwl : wantL L i l.length = L.eraseIdx i := by unfold wantL; rw [List.take_of_length_le (by omega)]
  have hwb : wantB l i l.length = l.eraseIdx i := by unfold wantB; rw [List.take_of_length_le (Nat.le_refl _)]
  rw [hwl] at h1
  rw [hwb] at h2
  have hbw : Below w.heap.size w wr := hb.trans (h4.mono hb.size)
  have hWw : ∀ k, k < w.heap.size → k ≠ rb → W'.heap[k]? = w.heap[k]? := fun k hk hkr => (hW k hkr (by omega)).trans (hbw.block k hk)
  have hvlt : ∀ q, v.ownBlock = some q → WX.heap.size ≤ q := fun q hq => (h1.lt q hq).1
  have hult : ∀ q, u.ownBlock = some q → WX.heap.size ≤ q := fun q hq => (h2.lt q hq).1
  have hs := hb.size
  have hitems : ∀ s ∈ L, ∀ q, s.x.ownBlock = some q → q < w.heap.size ∧ q ≠ rb := fun s hs' q hq => by
    have hm : q ∈ itFp Lv L := List.mem_append_right _ (List.mem_flatMap.2 ⟨s, hs', by simp [hq]⟩)
    exact ⟨h.items.lt q hm, fun e => h.sepL (e ▸ hm)⟩
  have hnd := List.nodup_append.1 h.items.nodup
  have hperm := (perm_erase L i t ht).flatMap_right fun t => t.x.ownBlock.toList
  have hnd2 := hperm.nodup_iff.2 hnd.2.1
  have hxm : xb ∈ refFp rb Bv Lv L := by simp [refFp, itFp]; exact .inr (.inr (.inr ⟨t, List.mem_of_getElem? ht, by simp [hx, Value.ownBlock]⟩))
  have hxl := hitems t (List.mem_of_getElem? ht) xb (by simp [hx, Value.ownBlock])
  have hxe : xb ∉ (L.eraseIdx i).flatMap fun t => t.x.ownBlock.toList := by
    rw [List.flatMap_cons] at hnd2
    exact fun hm => (List.nodup_append.1 hnd2).2.2 xb (by simp [hx, Value.ownBlock]) xb hm rfl
  have hmemE : ∀ q, (q ∈ (L.eraseIdx i).flatMap fun t => t.x.ownBlock.toList) → q < w.heap.size ∧ q ≠ rb := fun q hq => by
    obtain ⟨s, hs', hq'⟩ := List.mem_flatMap.1 hq
    exact hitems s (List.mem_of_mem_eraseIdx hs') q (by simpa using hq')
  refine ⟨xb, xc, _, rfl, ⟨v, u, L.eraseIdx i, ⟨hWr, ⟨?_, ?_, fun s hs' => ?_⟩, ?_, ?_, ?_, fun q hq => ⟨?_, ?_⟩⟩, rfl⟩, hxm, ?_, ?_, ⟨?_, ?_, ?_, ?_, fun k hk hkn => ?_, fun k hk => ?_⟩⟩
  · refine List.nodup_append.2 ⟨by cases v.ownBlock <;> simp, (List.nodup_append.1 (by rw [List.flatMap_cons] at hnd2; exact hnd2)).2.1, fun a ha b hb' e => ?_⟩
    have := hvlt a (by simpa using ha)
    have := (hmemE b hb').1
    omega
  · exact ownsRow_base (ownsRow_same h1 fun q hq => hW q (by have := hvlt q hq; omega) (by have := hvlt q hq; omega)) (Nat.zero_le _)
  · have hsm := List.mem_of_mem_eraseIdx hs'
    obtain ⟨e1, e2, e3⟩ := h.items.each s hsm
    exact ⟨e1, e2, ownsRow_same e3 fun q hq => by obtain ⟨a1, a2⟩ := hitems s hsm q hq; exact hWw q a1 a2⟩
  · rw [← map_erase, ← map_erase, h.key]
  · exact ownsRow_base (ownsRow_same h2 fun q hq => hW q (by have := hult q hq; omega) (by have := hult q hq; omega)) (Nat.zero_le _)
  · intro hm
    rcases List.mem_append.1 hm with hm | hm
    · have := hvlt rb (by simpa using hm); omega
    · exact (hmemE rb hm).2 rfl
  · intro hm
    have hq1 := hult q hq
    rcases List.mem_append.1 hm with hm | hm
    · exact h3 q (by simpa using hm) hq
    · have := (hmemE q hm).1; omega
  · have := hult q hq; omega
  · intro hm
    simp only [refFp, itFp, List.mem_cons, List.mem_append, Option.mem_toList] at hm
    rcases hm with e | hm | hm | hm
    · exact hxl.2 e
    · have := hult xb hm; omega
    · have := hvlt xb hm; omega
    · exact hxe hm
  · exact ownsRow_same ho fun q hq => by simp only [Value.ownBlock, Option.some.injEq] at hq; subst hq; exact hWw _ hxl.1 hxl.2
  · exact hos.trans hbw.os
  · exact htp.trans hbw.tape
  · exact hop.trans hbw.output
  · rw [hsz]; exact hbw.size
  · exact hWw k hk fun e => hkn (by simp [refFp, e])
  · simp only [refFp, itFp, List.mem_cons, List.mem_append, Option.mem_toList] at hk ⊢
    rcases hk with e | hk | hk | hk
    · exact .inl (.inl e)
    · exact .inr (by have := hult k hk; omega)
    · exact .inr (by have := hvlt k hk; omega)
    · obtain ⟨s, hs', hq'⟩ := List.mem_flatMap.1 hk
      exact .inl (.inr (.inr (.inr (List.mem_flatMap.2 ⟨s, List.mem_of_mem_eraseIdx hs', hq'⟩))))

set_option maxRecDepth 100000 in
set_option maxHeartbeats 3200000 in
theorem ref_take (rb : Nat) (l : List G) (F : List Nat) (i : Int) (w : World) (g : G) (h : RefRep w rb l F) (hl : l.length ≤ 4096) (hi : 0 ≤ i) (hg : l[i.toNat]? = some g) (hgb : ∀ g ∈ l, g.b ≠ []) :
    Calls Try.prog 23 #[.pointer (some ⟨rb, 0, none⟩), .int .i64 i] w (RefTaken w rb l F i.toNat g) := by
  have H := hide h
  obtain ⟨i, rfl⟩ := Int.eq_ofNat_of_zero_le hi
  rw [show ((i : Int)).toNat = i from by omega] at hg ⊢
  have hil := (List.getElem?_eq_some_iff.1 hg).1
  obtain ⟨Lv, Bv, L, h, rfl⟩ := h
  obtain ⟨lb, lc, bb, bc, xb, xc, t, rfl, rfl, ht, hkey, htx, p0, p1, p2, fb, ho, hlb, hbb, hxb, hrb⟩ := h.get hg (hgb g (List.mem_of_getElem? hg))
  obtain ⟨_, _, c0, c1, f0, f1, _⟩ := h.heads
  have HIN := hide (show decide (0 ≤ (i : Int) ∧ (i : Int) < l.length) = true by simp; omega)
  have s0 : ∀ w', Below w.heap.size w w' → w'.cell? ⟨rb, 0, none⟩ = some (.slice (some ⟨lb, 0, none⟩) l.length lc) := fun w' h => (h.cell (p := ⟨rb, 0, none⟩) hrb).trans c0
  have s1 : ∀ w', Below w.heap.size w w' → w'.cell? ⟨rb, 1, none⟩ = some (.slice (some ⟨bb, 0, none⟩) l.length bc) := fun w' h => (h.cell (p := ⟨rb, 1, none⟩) hrb).trans c1
  have a0 : ∀ o, (w.alloc o).cell? ⟨rb, 0, none⟩ = some (.slice (some ⟨lb, 0, none⟩) l.length lc) := fun o => s0 _ ((Below.refl _ _).alloc (Nat.le_refl _) _)
  have a2 : ∀ o, (w.alloc o).cell? ⟨lb, i * 2, none⟩ = some (.int .u8 g.to) := fun o => by rw [World.cell?_alloc_past _ _ _ hlb]; exact p0
  have a3 : ∀ o, (w.alloc o).cell? ⟨lb, i * 2 + 1, none⟩ = some (.slice (some ⟨xb, 0, none⟩) g.b.length xc) := fun o => by rw [World.cell?_alloc_past _ _ _ hlb]; exact p1
  have b0 : ∀ o o2, ((w.alloc o).alloc o2).cell? ⟨rb, 0, none⟩ = some (.slice (some ⟨lb, 0, none⟩) l.length lc) := fun o o2 => s0 _ (((Below.refl _ _).alloc (Nat.le_refl _) _).alloc (by simp) _)
  have HH := hide h; have HG := hide hg; have HT := hide ht; have HTX := hide htx; have HO := hide ho; have HGB := hide hgb; have HF0 := hide f0; have HF1 := hide f1; have HS0 := hide s0; have HS1 := hide s1
  clear h hg ht htx ho hgb hkey p0 p1 p2 fb s0 s1 c0 c1 f0 f1
  go_enter Try.func23, Try.ntmps23
  go_wp2_with fail
  refine (ref_is rb l _ _ _ (H.out.below ((Below.refl _ _).alloc (Nat.le_refl _) _)) hl).mono ?_
  rintro e w' ⟨rfl, rfl⟩
  rw [HIN.out]
  go_wp2
  clear a0 a2 a3 b0
  obtain ⟨WX, hWX⟩ : ∃ WX, WX = (w.alloc (.cells #[.int .u8 0, .slice none 0 0] 33)).alloc (.cells #[.int .u8 g.to, .slice (some ⟨xb, 0, none⟩) g.b.length xc] 33) := ⟨_, rfl⟩
  have hbX : Below w.heap.size w WX := by rw [hWX]; exact ((Below.refl _ _).alloc (Nat.le_refl _) _).alloc (by simp) _
  have hXs : WX.heap.size = w.heap.size + 2 := by rw [hWX]; simp
  have r0 : WX.cell? ⟨w.heap.size, 0, none⟩ = some (.int .u8 0) := by rw [hWX]; simp [go_sem]
  have r1 : WX.cell? ⟨w.heap.size, 1, none⟩ = some (.slice none 0 0) := by rw [hWX]; simp [go_sem]
  have r2 : WX.frozen? ⟨w.heap.size, 0, none⟩ = false := by rw [hWX]; simp [go_sem]
  have r3 : WX.frozen? ⟨w.heap.size, 1, none⟩ = false := by rw [hWX]; simp [go_sem]
  have r4 : WX.cell? ⟨w.heap.size + 1, 0, none⟩ = some (.int .u8 g.to) := by rw [hWX]; simp [go_sem]
  have r5 : WX.cell? ⟨w.heap.size + 1, 1, none⟩ = some (.slice (some ⟨xb, 0, none⟩) g.b.length xc) := by rw [hWX]; simp [go_sem]
  have HBX := hide hbX; have HXS := hide hXs
  rw [← hWX]
  have hx1 : w.heap.size < WX.heap.size := by omega
  have hx2 : w.heap.size + 1 < WX.heap.size := by omega
  clear hWX hbX hXs
  have hLl : L.length = l.length := HH.out.len
  have HLL := hide hLl
  clear hLl
  obtain ⟨iG, hiG0, hyG0, hyG1, hyG2⟩ := info_parts info_Gram
  obtain ⟨iB, hiB0, hyB0, hyB1, hyB2⟩ := info_parts info_bool
  go_loopw [8, 9, 10] (fun v u i' wr => ∃ (k : Nat), k ≤ l.length ∧ i' = .int .i64 k ∧ Hid (TakeRel WX L l i k v u wr)) (fun _ _ i' _ => l.length - (intOf i').toNat)
  case atStart => exact ⟨0, Nat.zero_le _, rfl, ⟨by simpa [wantL] using World.ownsRow_nil _ _ _ _, by simpa [wantB, bents] using World.ownsRow_nil _ _ _ _, by simp [Value.ownBlock], Below.refl _ _⟩⟩
  case round =>
    obtain ⟨k, hk, rfl, hrel⟩ := hrel
    have hbr : Below w.heap.size w wr := HBX.out.trans (hrel.out.below.mono HBX.out.size)
    have c0 := HS0.out wr hbr
    have c1 := HS1.out wr hbr
    have HBR := hide hbr
    clear hbr
    by_cases hlt : k < l.length
    · obtain ⟨gk, hgk⟩ : ∃ gk, l[k]? = some gk := ⟨_, List.getElem?_eq_getElem hlt⟩
      obtain ⟨_, _, _, _, yb, yc, tk, e1, e2, htk, htkk, htkx, q0, q1, q2, _, _, hlb2, hbb2, _, _⟩ := HH.out.get hgk (HGB.out gk (List.mem_of_getElem? hgk))
      simp only [Value.slice.injEq, Option.some.injEq, Addr.mk.injEq, and_true, true_and] at e1 e2
      obtain ⟨rfl, rfl⟩ := e1
      obtain ⟨rfl, rfl⟩ := e2
      by_cases hki : k = i
      · have hne : ((k : Int) != (i : Int)) = false := by simp [hki]
        have hW2 : Hid (TakeRel WX L l i (k + 1) u8 u9 wr) := by
          obtain ⟨z1, z2, z3, z4⟩ := hrel.out
          subst hki
          have e1 := wantL_skip (Lw := L) (k := k) (by rw [HLL.out]; exact hlt)
          have e2 := wantB_skip hlt
          exact ⟨by rw [e1]; exact z1, by rw [e2]; exact z2, z3, z4⟩
        clear hki hrel htk htkk htkx hgk
        go_wp2
        go_roundw
        case rel => exact ⟨k + 1, by omega, by go_num, hW2⟩
        case measure => simp [intOf]; omega
      · have hne : ((k : Int) != (i : Int)) = true := by simp; omega
        have hq0 := (HBR.out.cell (p := ⟨lb, k * 2, none⟩) hlb).trans q0
        have hq1 := (HBR.out.cell (p := ⟨lb, k * 2 + 1, none⟩) hlb).trans q1
        have hLk : L[k]'(by rw [HLL.out]; exact hlt) = tk := (List.getElem?_eq_some_iff.1 htk).2
        have hgk' : l[k] = gk := (List.getElem?_eq_some_iff.1 hgk).2
        have hcells : tk.cells = [.int .u8 gk.to, .slice (some ⟨yb, 0, none⟩) gk.b.length yc] := by
          simp only [Item.key, G.key, Prod.mk.injEq] at htkk
          simp [Item.cells, htkk.1, htkk.2, htkx, bcells]
        have hwl : (wantL L i k).length ≤ 4096 := by
          have : (wantL L i k).length ≤ k := by
            unfold wantL
            refine Nat.le_trans (List.length_eraseIdx_le _ _) ?_
            simp only [List.length_take]
            omega
          omega
        have hwb : (wantB l i k).length ≤ 4096 := by
          have : (wantB l i k).length ≤ k := by
            unfold wantB
            refine Nat.le_trans (List.length_eraseIdx_le _ _) ?_
            simp only [List.length_take]
            omega
          omega
        have hnL := wantL_next (Lw := L) (iN := i) (k := k) (by rw [HLL.out]; exact hlt) hki
        have hnB := wantB_next (iN := i) hlt hki
        rw [hLk] at hnL
        rw [hgk'] at hnB
        have hXr : WX.heap.size ≤ wr.heap.size := hrel.out.below.size
        have HNL := hide hnL; have HNB := hide hnB; have HCE := hide hcells; have HQ2 := hide q2
        clear hLk hgk' hcells hnL hnB htk htkk htkx hgk hki q0 q1 q2
        go_wp2_with (at_builtin; refine wpList_append_rd rfl (.tmp 36) (.tmp 44) 37 rfl WX.heap.size 33 iG (.agg #[.int .u8 0, .slice none 0 0]) 2 32 Try.underlying37 hiG0 hyG0 hyG1 hyG2 rfl (by decide) u8 (wantL L i k).length ((wantL L i k).flatMap Item.cells) rfl (hrel.out.rowL.alloc _) _ 1 [.int .u8 gk.to, .slice (some ⟨yb, 0, none⟩) gk.b.length yc] rfl (rd_new _ _ _ 1 2 (by simp) (by simp)) (by simp [Value.oneCell']) (by unfold maxLen; omega) (by omega) (by simp; omega) ?_)
        intro v1 w1 hown1 hgrow1 hnil1 hv1
        have hb1 : Below WX.heap.size WX w1 := (hrel.out.below.alloc hXr _).grown hgrow1 (by simp; omega) (fun q hq => (hrel.out.rowL.lt q hq).1)
        have hbw1 : Below w.heap.size w w1 := HBX.out.trans (hb1.mono HBX.out.size)
        have hs1 : wr.heap.size + 1 ≤ w1.heap.size := by have := hgrow1.size; simpa using this
        have hc1 := HS1.out w1 hbw1
        have hq2 := (hbw1.cell (p := ⟨bb, k, none⟩) hbb).trans HQ2.out
        have hrB : ∀ o, (w1.alloc o).ownsRow WX.heap.size 4 1 u9 (wantB l i k).length (bents (wantB l i k)) := fun o => by
          refine ownsRow_same hrel.out.rowB fun q hq => ?_
          have hql := (hrel.out.rowB.lt q hq).2
          rw [Below.heap_alloc _ _ _ (by omega), hgrow1.block q (by simp; omega) (fun e => hrel.out.apart q e.symm hq), Below.heap_alloc _ _ _ hql]
        have hap : ∀ q, v1.ownBlock = some q → u9.ownBlock ≠ some q := fun q hq hu => by
          rcases hv1 with e | e
          · exact hrel.out.apart q (e ▸ hq) hu
          · have h2 := (hrel.out.rowB.lt q hu).2
            rw [e] at hq
            simp at hq
            omega
        have hO1 : w1.ownsRow WX.heap.size 33 2 v1 (wantL L i (k + 1)).length ((wantL L i (k + 1)).flatMap Item.cells) := by
          rw [HNL.out]
          simp only [List.length_append, List.length_cons, List.length_nil, List.flatMap_append, List.flatMap_cons, List.flatMap_nil, List.append_nil]
          rw [HCE.out]
          exact hown1
        have hul : ∀ q, u9.ownBlock = some q → q < wr.heap.size := fun q hq => (hrel.out.rowB.lt q hq).2
        have hXr1 : WX.heap.size ≤ w1.heap.size := by omega
        have HRB := hide hrB; have HAP := hide hap; have HO1 := hide hO1; have HB1 := hide hb1; have HUL := hide hul
        clear hrB hap hO1 hb1 hbw1 hown1 hgrow1 hnil1 hv1 c0 c1 hq0 hq1 hrel hul
        go_wp2_with (at_builtin; refine wpList_append_rd rfl (.tmp 46) (.tmp 54) 44 rfl WX.heap.size 4 iB (.bool false) 1 1 Try.underlying44 hiB0 hyB0 hyB1 hyB2 rfl (by decide) u9 (wantB l i k).length (bents (wantB l i k)) rfl (HRB.out _) _ 1 [.bool gk.bent] rfl (rd_new _ _ _ 1 1 (by simp) (by simp)) (by simp [Value.oneCell']) (by unfold maxLen; omega) (by omega) (by simp; omega) ?_)
        intro v2 w2 hown2 hgrow2 hnil2 hv2
        have hW2 : Hid (TakeRel WX L l i (k + 1) v1 v2 w2) := by
          refine ⟨ownsRow_same (HO1.out) fun q hq => ?_, ?_, fun q hq hu => ?_, (HB1.out.alloc hXr1 _).grown hgrow2 (by simp; omega) (fun q hq => (HRB.out (.cells #[] 0) |>.lt q hq).1)⟩
          · have hql := (HO1.out.lt q hq).2
            rw [hgrow2.block q (by simp; omega) (fun e => HAP.out q hq e.symm), Below.heap_alloc _ _ _ hql]
          · rw [HNB.out]
            simp only [List.length_append, List.length_cons, List.length_nil, bents, List.map_append, List.map_cons, List.map_nil]
            exact hown2
          · rcases hv2 with e | e
            · exact HAP.out q hq (e ▸ hu)
            · have h2 := (HO1.out.lt q hq).2
              rw [e] at hu
              simp at hu
              omega
        clear hown2 hgrow2 hnil2 hv2 hc1 hq2
        go_wp2
        go_roundw
        case rel => exact ⟨k + 1, by omega, by go_num, hW2⟩
        case measure => simp [intOf]; omega
    · have hke : k = l.length := by omega
      subst hke
      obtain ⟨⟨a8, c8, e8⟩, ⟨a9, c9, e9⟩⟩ : (∃ a c, u8 = .slice a (wantL L i l.length).length c) ∧ (∃ a c, u9 = .slice a (wantB l i l.length).length c) := ⟨(ownsRow_rd hrel.out.rowL).head, (ownsRow_rd hrel.out.rowB).head⟩
      have hXr : WX.heap.size ≤ wr.heap.size := hrel.out.below.size
      have hrbr : rb < wr.heap.size := by omega
      have z0 := (HBR.out.frozen (p := ⟨rb, 0, none⟩) hrb).trans HF0.out
      have z1 := (HBR.out.frozen (p := ⟨rb, 1, none⟩) hrb).trans HF1.out
      have y0 := (hrel.out.below.cell (p := ⟨w.heap.size, 0, none⟩) hx1).trans r0
      have y1 := (hrel.out.below.cell (p := ⟨w.heap.size, 1, none⟩) hx1).trans r1
      have y2 := (hrel.out.below.frozen (p := ⟨w.heap.size, 0, none⟩) hx1).trans r2
      have y3 := (hrel.out.below.frozen (p := ⟨w.heap.size, 1, none⟩) hx1).trans r3
      have y4 := (hrel.out.below.cell (p := ⟨w.heap.size + 1, 0, none⟩) hx2).trans r4
      have y5 := (hrel.out.below.cell (p := ⟨w.heap.size + 1, 1, none⟩) hx2).trans r5
      have n1 : rb ≠ w.heap.size := by omega
      have n2 : rb ≠ w.heap.size + 1 := by omega
      subst e8
      subst e9
      clear r0 r1 r2 r3 r4 r5
      go_wp2
      have hblk := (HBR.out.block rb hrb).trans HH.out.cells
      have hT := hrel.out
      refine bodyPost_ret (v := .tuple #[.agg #[.int .u8 g.to, .slice (some ⟨xb, 0, none⟩) g.b.length xc], .bool true]) (by simp [results, Try.results23, go_sem, y0, y1, n1, Ne.symm n1]) rfl
        (ref_take_close HH.out HG.out HT.out HTX.out HO.out HBX.out hT (Nat.le_refl _) hx1 rfl rfl rfl (by simp [World.setCell]) (fun k k1 k2 => ?_) ?_)
      · rw [heap_set_ne k2, heap_set_ne k2, heap_set_ne k1, heap_set_ne k1]
      · rw [heap_set_ne n1, heap_set_ne n1, setCell_heap (setCell_heap hblk 0 _) 1]
        rfl
end Go.Proofs.Ytipobpcafkhknaa
