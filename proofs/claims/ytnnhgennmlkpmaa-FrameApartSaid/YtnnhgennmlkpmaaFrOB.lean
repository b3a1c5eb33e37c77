/-
  The walk of the law FrameApart.
-/
import Derived.Test.YtnnhgennmlkpmaaFrY
import Derived.Test.YtnnhgennmlkpmaaFrN
namespace Go.Proofs.Ytnnhgennmlkpmaa
open Go.RowKit
set_option linter.unusedVariables false
set_option linter.unusedSimpArgs false

set_option maxRecDepth 100000 in
set_option maxHeartbeats 3200000 in
theorem law_FrameApart (W : World) (f : Fr) (hf : f.Ok) (a : Option Addr) (c : Nat) (hx : RdB W (.slice a f.b.length c) f.b) (hc : f.b.length ≤ c) (hc2 : c ≤ 9223372036854775807)
    (g : Fr) (hg : g.Ok) (a' : Option Addr) (c' : Nat) (hy : RdB W (.slice a' g.b.length c') g.b) (hc' : g.b.length ≤ c') (hc2' : c' ≤ 9223372036854775807) :
    Calls Try.prog 7 #[frV f (.slice a f.b.length c), frV g (.slice a' g.b.length c')] W fun e w' => e = .returned (.bool true) ∧ Below W.heap.size W w' := by
  have hl : f.b.length ≤ 9223372036854775807 := by omega
  have hl' : g.b.length ≤ 9223372036854775807 := by omega
  clear hc hc2 hc' hc2'
  have hW0 := ((below_alloc W (.cells (frCells f (.slice a f.b.length c)) 30)).alloc (by simp) (.cells (frCells g (.slice a' g.b.length c')) 30))
  have hAf : FrAt ((W.alloc (.cells (frCells f (.slice a f.b.length c)) 30)).alloc (.cells (frCells g (.slice a' g.b.length c')) 30)) W.heap.size f (.slice a f.b.length c) := (heap_alloc_old _ _ (by simp)).trans (heap_alloc_at W _)
  have hAg : FrAt ((W.alloc (.cells (frCells f (.slice a f.b.length c)) 30)).alloc (.cells (frCells g (.slice a' g.b.length c')) 30)) (W.heap.size + 1) g (.slice a' g.b.length c') := heap_alloc_eq (w := W.alloc (.cells (frCells f (.slice a f.b.length c)) 30)) _ (by simp)
  have HW0 := hide hW0; have HAf := hide hAf; have HAg := hide hAg; have HX := hide hx; have HY := hide hy; have HF := hide hf; have HG := hide hg
  have HVf : ∀ x, Hid (frV f x = .agg #[.int .u8 f.kind, .int .u32 f.epoch, .int .u32 f.series, .int .u32 f.chunk, .int .u32 f.bits, .int .u32 f.cnt, .int .u32 f.count, .bool f.closed, .int .u64 f.sum, x, .int .i64 f.n]) := fun x => hide rfl
  have HVg : ∀ x, Hid (frV g x = .agg #[.int .u8 g.kind, .int .u32 g.epoch, .int .u32 g.series, .int .u32 g.chunk, .int .u32 g.bits, .int .u32 g.cnt, .int .u32 g.count, .bool g.closed, .int .u64 g.sum, x, .int .i64 g.n]) := fun x => hide rfl
  clear hx hy hf hg hAf hAg hW0
  rw [(HVf _).out, (HVg _).out]
  by_cases hbig : 4300 < f.b.length
  · go_enter Try.func7, Try.ntmps7
    go_wp2_with (go_at_call 8; refine (fr_known _).mono ?_; rintro e w' ⟨rfl, hb1⟩; have HBw := hide (HW0.out.trans (hb1.mono (by simp; omega))); clear hb1)
    go_ret
    exact ⟨rfl, HBw.out⟩
  by_cases hbig2 : 4300 < g.b.length
  · go_enter Try.func7, Try.ntmps7
    go_wp2_with (go_at_call 8; refine (fr_known _).mono ?_; rintro e w' ⟨rfl, hb1⟩; have HBw := hide (HW0.out.trans (hb1.mono (by simp; omega))); clear hb1)
    go_ret
    exact ⟨rfl, HBw.out⟩
  go_enter Try.func7, Try.ntmps7
  go_wp2_with fail
  refine (fr_known _).mono ?_
  rintro e w1 ⟨rfl, hb1'⟩
  have hb1 : Below ((W.alloc (.cells (frCells f (.slice a f.b.length c)) 30)).alloc (.cells (frCells g (.slice a' g.b.length c')) 30)).heap.size ((W.alloc (.cells (frCells f (.slice a f.b.length c)) 30)).alloc (.cells (frCells g (.slice a' g.b.length c')) 30)) w1 := hb1'.mono (by simp)
  have hAf := HAf.out.low hb1
  have hAg := HAg.out.low hb1
  have HB1 := hide (HW0.out.trans (hb1.mono (by simp; omega)))
  obtain ⟨c0, c1, c2, c3, c4, c5, c6, c7, c8, c9, c10⟩ := hAf.cells
  obtain ⟨d0, d1, d2, d3, d4, d5, d6, d7, d8, d9, d10⟩ := hAg.cells
  have HAf1 := hide hAf; have HAg1 := hide hAg
  have hs1 := hAg.lt
  clear hb1 hb1' hAf hAg HAf HAg HW0
  go_wp2_with fail
  rw [← (HVf _).out]
  refine (fr_encode_any f a c _ HF.out (by omega) (RdB.low HX.out HB1.out)).mono ?_
  rintro e w4 ⟨a4, n4, cc4, rfl, ho4, hn4, hb4⟩
  have hr4 : RdB w4 (.slice a4 n4 cc4) (encB f) := by have h := ownsRow_rd ho4; rw [hn4] at h ⊢; exact h
  have hAf := HAf1.out.low hb4
  have hAg := HAg1.out.low hb4
  have HB4 := hide (HB1.out.trans (hb4.mono HB1.out.size))
  have HR4 := hide hr4
  clear c0 c1 c2 c3 c4 c5 c6 c7 c8 c9 c10 d0 d1 d2 d3 d4 d5 d6 d7 d8 d9 d10
  obtain ⟨c0, c1, c2, c3, c4, c5, c6, c7, c8, c9, c10⟩ := hAf.cells
  obtain ⟨d0, d1, d2, d3, d4, d5, d6, d7, d8, d9, d10⟩ := hAg.cells
  have HAf4 := hide hAf; have HAg4 := hide hAg
  have hs4 := hAg.lt
  clear ho4 hn4 hb4 hr4 hAf hAg HAf1 HAg1
  go_wp2_with fail
  rw [← (HVg _).out]
  refine (fr_encode_any g a' c' _ HG.out (by omega) (RdB.low HY.out HB4.out)).mono ?_
  rintro e w5 ⟨a5, n5, cc5, rfl, ho5, hn5, hb5⟩
  have hr5 : RdB w5 (.slice a5 n5 cc5) (encB g) := by have h := ownsRow_rd ho5; rw [hn5] at h ⊢; exact h
  have HB5 := hide (HB4.out.trans (hb5.mono HB4.out.size)).drew
  have HR5 := hide (RdB.low hr5 (w' := w5.drew) (Below.refl _ _).drew)
  have HR45 := hide (RdB.low (RdB.low HR4.out hb5) (w' := w5.drew) (Below.refl _ _).drew)
  have HAf5 := hide ((HAf4.out.low hb5).low (w' := w5.drew) (Below.refl _ _).drew); have HAg5 := hide ((HAg4.out.low hb5).low (w' := w5.drew) (Below.refl _ _).drew)
  have hB5 := hide (HB4.out.trans (hb5.mono HB4.out.size))
  have hce : ∀ h : Fr, (mayB h = true ∧ encE h = 0 ∧ encB h = writeB h) ∨ (mayB h = false ∧ encE h = 70) := fun h => by
    unfold encE encB
    cases mayB h
    · exact .inr ⟨rfl, rfl⟩
    · exact .inl ⟨rfl, rfl, rfl⟩
  have HCE := hide hce
  clear c0 c1 c2 c3 c4 c5 c6 c7 c8 c9 c10 d0 d1 d2 d3 d4 d5 d6 d7 d8 d9 d10 ho5 hn5 hb5 hr5 HR4 HAf4 HAg4 hce
  rcases HCE.out f with ⟨hm, he, hb⟩ | ⟨hm, he⟩
  case inr =>
    clear hm
    go_wp2
    go_ret
    exact ⟨rfl, hB5.out⟩
  rcases HCE.out g with ⟨hm', he', hb'⟩ | ⟨hm', he'⟩
  case inr =>
    clear hm hm' hb
    go_wp2
    go_ret
    exact ⟨rfl, hB5.out⟩
  obtain ⟨x, hx⟩ : ∃ x, x = encB f := ⟨_, rfl⟩
  obtain ⟨y, hy⟩ : ∃ y, y = encB g := ⟨_, rfl⟩
  rw [← hx] at HR45
  rw [← hy] at HR5
  have hfin : ((x == y) == sameB f g) = true := by
    rw [beq_iff_eq, Bool.eq_iff_iff, beq_iff_eq, sameB_iff, hx, hy, hb, hb']
    exact write_apart HF.out HG.out hm hm'
  have HFIN := hide hfin
  clear hx hy hb hb' hm hm' hfin
  obtain ⟨s, hs⟩ : ∃ s, s = sameB f g := ⟨_, rfl⟩
  rw [← hs] at HFIN
  have HS := hide hs
  clear hs
  have e1 := bytes_toList x
  have e2 := bytes_toList y
  obtain ⟨W6, hW6⟩ : ∃ W6, W6 = w5.drew := ⟨_, rfl⟩
  rw [← hW6] at HB5 HR5 HR45 HAf5 HAg5
  go_wp2
  refine wp_region_three 9 51 (by kernel_rfl) (by kernel_rfl) rfl (by kernel_rfl) (fun D v W => Below W6.heap.size W6 W) (fun _ => undef) (by rw [← hW6]; exact Below.refl _ _) ?_
  clear hW6
  simp only [List.take_succ_cons, List.take_zero, List.drop_succ_cons, List.drop_zero]
  iterate 1 (refine Hav3.read (e := ?_) (fun v => by rfl) (fun D v w h => h) (fun D v w' hD hS => ?_) ?_; rotate_left; (clear hS; first | (go_simp; done) | (go_simp; with_reducible rfl)); go_simp)
  iterate 1 (refine Hav3.read (e := ?_) (fun v => by rfl) (fun D v w h => h) (fun D v w' hD hS => ?_) ?_; rotate_left; (have v1 := convert_rd x _ _ (RdB.low HR45.out hS); clear hS; first | (go_simp; done) | (go_simp; with_reducible rfl)); go_simp)
  iterate 1 (refine Hav3.read (e := ?_) (fun v => by rfl) (fun D v w h => h) (fun D v w' hD hS => ?_) ?_; rotate_left; (clear hS; first | (go_simp; done) | (go_simp; with_reducible rfl)); go_simp)
  iterate 1 (refine Hav3.read (e := ?_) (fun v => by rfl) (fun D v w h => h) (fun D v w' hD hS => ?_) ?_; rotate_left; (have v1 := convert_rd y _ _ (RdB.low HR5.out hS); clear hS; first | (go_simp; done) | (go_simp; with_reducible rfl)); go_simp)
  iterate 1 (refine Hav3.read (e := ?_) (fun v => by rfl) (fun D v w h => h) (fun D v w' hD hS => ?_) ?_; rotate_left; (clear hS; first | (go_simp; done) | (go_simp; with_reducible rfl)); go_simp)
  iterate 1 (refine Hav3.read (e := ?_) (fun v => by rfl) (fun D v w h => h) (fun D v w' hD hS => ?_) ?_; rotate_left; (obtain ⟨c0, c1, c2, c3, c4, c5, c6, c7, c8, c9, c10⟩ := (HAf5.out.low hS).cells; clear hS; first | (go_simp; done) | (go_simp; with_reducible rfl)); go_simp)
  iterate 1 (refine Hav3.read (e := ?_) (fun v => by rfl) (fun D v w h => h) (fun D v w' hD hS => ?_) ?_; rotate_left; (obtain ⟨c0, c1, c2, c3, c4, c5, c6, c7, c8, c9, c10⟩ := (HAg5.out.low hS).cells; clear hS; first | (go_simp; done) | (go_simp; with_reducible rfl)); go_simp)
  refine Hav3.call (.bool s) (fun v => by rfl) (fun D v w' hD hS => ?_) ?_
  · have HS2 := hide hS
    clear hS
    go_simp
    rw [← (HVf _).out, ← (HVg _).out]
    go_at_call 16
    refine (ref_same f a c g a' c' _ (RdB.low HX.out (HB5.out.trans (HS2.out.mono HB5.out.size))) (RdB.low HY.out (HB5.out.trans (HS2.out.mono HB5.out.size)))).mono ?_
    rintro e w'' ⟨rfl, hb⟩
    rw [← HS.out]
    exact ⟨rfl, HS2.out.trans (hb.mono HS2.out.size)⟩
  go_simp
  iterate 1 (refine Hav3.read (e := ?_) (fun v => by rfl) (fun D v w h => h) (fun D v w' hD hS => ?_) ?_; rotate_left; (clear hS; first | (go_simp; done) | (go_simp; with_reducible rfl)); go_simp)
  refine Hav3.fin (fun v w' hS => ?_)
  have HS2 := hide hS
  clear hS
  go_wp2
  go_ret
  exact ⟨ret_bool (by rw [← HFIN.out]), HB5.out.trans (HS2.out.mono HB5.out.size)⟩
end Go.Proofs.Ytnnhgennmlkpmaa
