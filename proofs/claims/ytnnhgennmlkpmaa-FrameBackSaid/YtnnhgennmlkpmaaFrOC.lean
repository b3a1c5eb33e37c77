/-
  The walk of the law FrameBack.
-/
import Derived.Test.YtnnhgennmlkpmaaFrY
import Derived.Test.YtnnhgennmlkpmaaFrN
import Derived.Test.YtnnhgennmlkpmaaFrZ
namespace Go.Proofs.Ytnnhgennmlkpmaa
open Go.RowKit
set_option linter.unusedVariables false
set_option linter.unusedSimpArgs false

set_option maxRecDepth 100000 in
set_option maxHeartbeats 3200000 in
theorem law_FrameBack (W : World) (f : Fr) (hf : f.Ok) (a : Option Addr) (c : Nat) (hx : RdB W (.slice a f.b.length c) f.b) (hc : f.b.length ≤ c) (hc2 : c ≤ 9223372036854775807)
    (k : Int) (hk0 : -9223372036854775808 ≤ k) (hk1 : k ≤ 9223372036854775807) (y : UInt8) :
    Calls Try.prog 5 #[frV f (.slice a f.b.length c), .int .i64 k, .int .u8 y.toNat] W fun e w' => e = .returned (.bool true) ∧ Below W.heap.size W w' := by
  have hl : f.b.length ≤ 9223372036854775807 := by omega
  clear hc hc2
  have hW0 := below_alloc W (.cells (frCells f (.slice a f.b.length c)) 30)
  have hAf := FrAt.made W f (.slice a f.b.length c)
  have HW0 := hide hW0; have HAf := hide hAf; have HX := hide hx; have HF := hide hf
  have HVf : ∀ x, Hid (frV f x = .agg #[.int .u8 f.kind, .int .u32 f.epoch, .int .u32 f.series, .int .u32 f.chunk, .int .u32 f.bits, .int .u32 f.cnt, .int .u32 f.count, .bool f.closed, .int .u64 f.sum, x, .int .i64 f.n]) := fun x => hide rfl
  clear hx hf hAf hW0
  rw [(HVf _).out]
  by_cases hbig : 4300 < f.b.length
  · go_enter Try.func5, Try.ntmps5
    go_wp2_with (go_at_call 8; refine (fr_known _).mono ?_; rintro e w' ⟨rfl, hb1⟩; have HBw := hide (HW0.out.trans (hb1.mono (by simp))); clear hb1)
    go_ret
    exact ⟨rfl, HBw.out⟩
  have hcase : (mayB f = true ∧ encE f = 0 ∧ encB f = writeB f) ∨ (mayB f = false ∧ encE f = 70 ∧ encB f = []) := by
    unfold encE encB
    cases mayB f
    · exact .inr ⟨rfl, rfl, rfl⟩
    · exact .inl ⟨rfl, rfl, rfl⟩
  have HCASE := hide hcase
  clear hcase
  go_enter Try.func5, Try.ntmps5
  go_wp2_with fail
  refine (fr_known _).mono ?_
  rintro e w1 ⟨rfl, hb1'⟩
  have hb1 : Below (W.alloc (.cells (frCells f (.slice a f.b.length c)) 30)).heap.size (W.alloc (.cells (frCells f (.slice a f.b.length c)) 30)) w1 := hb1'.mono (by simp)
  have hAf := HAf.out.low hb1
  have HB1 := hide (HW0.out.trans (hb1.mono (by simp)))
  obtain ⟨c0, c1, c2, c3, c4, c5, c6, c7, c8, c9, c10⟩ := hAf.cells
  have HAf1 := hide hAf
  have hs1 := hAf.lt
  clear hb1 hb1' hAf HAf HW0
  go_wp2_with fail
  rw [← (HVf _).out]
  refine (fr_encode_any f a c _ HF.out (by omega) (RdB.low HX.out HB1.out)).mono ?_
  rintro e w4 ⟨a4, n4, cc4, rfl, ho4, hn4, hb4⟩
  have hAf := HAf1.out.low hb4
  have HB4 := hide (HB1.out.trans (hb4.mono HB1.out.size))
  clear c0 c1 c2 c3 c4 c5 c6 c7 c8 c9 c10
  obtain ⟨c0, c1, c2, c3, c4, c5, c6, c7, c8, c9, c10⟩ := hAf.cells
  have HAf4 := hide hAf
  have hs4 := hAf.lt
  have HO4 := hide ho4; have HN4 := hide hn4
  clear ho4 hn4 hb4 hAf HAf1
  rcases HCASE.out with ⟨hm, he, hb⟩ | ⟨hm, he, hb⟩
  case inr =>
    have hn0 : n4 = 0 := by rw [HN4.out, hb]; rfl
    subst hn0
    have HM := hide hm
    clear hm hb
    go_wp2_with fail
    rw [← (HVf _).out]
    refine (fr_may f a c _ HF.out (by omega) (RdB.low HX.out HB4.out)).mono ?_
    rintro e w5 ⟨rfl, hb5⟩
    rw [HM.out]
    have HB5 := hide (HB4.out.trans (hb5.mono HB4.out.size))
    clear hb5
    go_wp2
    go_ret
    exact ⟨rfl, HB5.out⟩
  have hwl := writeB_length f
  have hml := (mayB_n hm).2.2
  have hn44 : n4 = 44 + f.b.length := by rw [HN4.out, hb, hwl]
  have hn5 : 44 ≤ n4 ∧ n4 ≤ 4096 := by omega
  obtain ⟨l1, l2⟩ := hn5
  obtain ⟨B, hB⟩ : ∃ B, B = writeB f := ⟨_, rfl⟩
  have HBB := hide hB
  have HM := hide hm
  have hO4 := HO4.out
  rw [hb, ← hB] at hO4
  have hnl : n4 = B.length := by rw [hn44, hB, hwl]
  obtain ⟨hc1, hc2⟩ := ownsRow_cap hO4
  obtain ⟨g, cap, hge1, hge⟩ := ownsRow_some hO4 (by intro e; rcases hO4.2 with ⟨_, h1⟩ | ⟨_, _, _, h1, _⟩; · omega
                                                     · rw [e] at h1; cases h1)
  simp only [Value.slice.injEq, true_and] at hge1
  obtain ⟨rfl, rfl⟩ := hge1
  have hdok := write_dec HF.out hm
  rw [← hB] at hdok
  have HD := hide hdok; have HO := hide hO4; have HNL := hide hnl
  clear hwl hml hn44 hB hm hb hO4 hnl hdok HO4 HN4
  go_wp2_with fail
  have hd := fr_decode (some ⟨g, 0, none⟩) cc4 B w4 (by show Rd _ _ 1 _ _; rw [← HNL.out]; exact ownsRow_rd HO.out) (by rw [← HNL.out]; omega) (by rw [← HNL.out]; exact hc1) hc2
  rw [← HNL.out, HD.out.1, HD.out.2] at hd
  refine hd.mono ?_
  clear hd
  rintro e w5 ⟨a5, cc5, rfl, hr5, hb5, hg5⟩
  rw [(HVf _).out]
  have hAf5 := HAf4.out.low hb5
  have hba := below_alloc w5 (.cells (frCells f (.slice a5 f.b.length cc5)) 30)
  clear c0 c1 c2 c3 c4 c5 c6 c7 c8 c9 c10
  obtain ⟨c0, c1, c2, c3, c4, c5, c6, c7, c8, c9, c10⟩ := hAf5.cells
  have hs5 := hAf5.lt
  have HR6 := hide (RdB.low hr5 hba)
  have HB6 := hide ((HB4.out.trans (hb5.mono HB4.out.size)).trans (hba.mono (by have := HB4.out.size; have := hb5.size; omega)))
  have HO6 := hide (ownsRow_below (ownsRow_below HO.out hb5 (Nat.le_refl _)) hba (Nat.le_refl _))
  clear hr5 hb5 hg5 hAf5 hba HO HAf4
  go_wp2_with fail
  rw [← (HVf (.slice a f.b.length c)).out, ← (HVf (.slice a5 f.b.length cc5)).out]
  refine (ref_same f a c f a5 cc5 _ (RdB.low HX.out HB6.out) HR6.out).mono ?_
  rintro e w7 ⟨rfl, hb7⟩
  rw [sameB_self]
  have hO7 := ownsRow_below HO6.out hb7 (Nat.le_refl _)
  have HB7 := hide (HB6.out.trans (hb7.mono HB6.out.size))
  obtain ⟨J, hJ, hj⟩ : ∃ J : Nat, ((k < 0 ∧ J = 0) ∨ (∃ m : Nat, k = (m : Int) ∧ J = m % n4)) ∧ J < n4 := by
    by_cases h : k < 0
    · exact ⟨0, .inl ⟨h, rfl⟩, by omega⟩
    · exact ⟨k.toNat % n4, .inr ⟨k.toNat, by omega, rfl⟩, Nat.mod_lt _ (by omega)⟩
  have hjB : J < B.length := by rw [← HNL.out]; exact hj
  have HJ := hide hJ
  clear hJ
  have ck : w7.cell? ⟨g, J, none⟩ = some (.int .u8 (B[J]'hjB).toNat) := by
    rw [hO7.cellAt (J) (by omega)]
    simp [bcells, List.getElem?_eq_getElem hjB]
  have fk : w7.frozen? ⟨g, J, none⟩ = false := hO7.frozenAt _
  have hst := (hO7.stored (J) (.int .u8 (y.toNat : Nat))).1
  have hset : (bcells B).set (J) (.int .u8 (y.toNat : Nat)) = bcells (B.set (J) y) := by simp [bcells, List.map_set]
  rw [hset] at hst
  have hws : decE (B.set (J) y) = 0 ↔ B[J]'hjB = y := by
    have h := write_set (c := y) HF.out HM.out (k := J) (by rw [← HBB.out]; exact hjB)
    simp only [← HBB.out] at h
    exact h
  have hlC : n4 = (B.set (J) y).length := by rw [List.length_set]; exact HNL.out
  obtain ⟨C, hC⟩ : ∃ C, C = B.set (J) y := ⟨_, rfl⟩
  rw [← hC] at hst hws hlC
  have hE := decE_cases C
  obtain ⟨x, hxB⟩ : ∃ x, x = B[J]'hjB := ⟨_, rfl⟩
  rw [← hxB] at ck hws
  have hgs : g < w7.heap.size := (hO7.lt g rfl).2
  have HST := hide hst; have HWS := hide hws; have HLC := hide hlC; have HE := hide hE
  have HB8 := hide (HB7.out.setCell (p := ⟨g, J, none⟩) (by show W.heap.size ≤ g; have := HB1.out.size; omega) (.int .u8 (y.toNat : Nat)))
  clear hO7 hb7 hset hst hws hlC hC hE hxB c0 c1 c2 c3 c4 c5 c6 c7 c8 c9 c10
  have hC0 : ∀ j : Nat, j = J → Calls Try.prog 14 #[.slice (some ⟨g, 0, none⟩) n4 cc4] (w7.setCell ⟨g, j, none⟩ (.int .u8 (y.toNat : Nat))) (Told (w7.setCell ⟨g, j, none⟩ (.int .u8 (y.toNat : Nat))) (decF C) (decE C)) := fun j hj => by
    subst hj
    have hd := fr_decode (some ⟨g, 0, none⟩) cc4 C (w7.setCell ⟨g, j, none⟩ (.int .u8 (y.toNat : Nat))) (by show Rd _ _ 1 _ _; rw [← HLC.out]; exact ownsRow_rd HST.out) (by rw [← HLC.out]; omega) (by rw [← HLC.out]; exact hc1) hc2
    rw [← HLC.out] at hd
    exact hd
  have HC0 := hide hC0
  clear hC0
  rcases HJ.out with ⟨h1, h2⟩ | ⟨m, rfl, h2⟩
  case' inr =>
    have q0 : (0 : Int) ≤ (m : Int) % (n4 : Int) := Int.emod_nonneg _ (by omega)
    have q1 : (m : Int) % (n4 : Int) < (n4 : Int) := Int.emod_lt_of_pos _ (by omega)
  all_goals
    subst h2
    go_wp2_with fail
    refine (HC0.out _ rfl).mono ?_
    rintro e w8 ⟨a8, cc8, rfl, hr8, hb8, hg8⟩
    have HB9 := hide ((HB8.out.trans (hb8.mono HB8.out.size)).alloc (by have := HB8.out.size; have := hb8.size; omega) (.cells (frCells (decF C) (.slice a8 (decF C).b.length cc8)) 30))
    rw [frV_eq]
    obtain ⟨E, hEE⟩ : ∃ E, E = decE C := ⟨_, rfl⟩
    have hfin : ((E == 0) == ((x.toNat : Int) == (y.toNat : Int))) = true := by
      rw [beq_iff_eq, Bool.eq_iff_iff, beq_iff_eq, beq_iff_eq, hEE, HWS.out, Int.natCast_inj, UInt8.toNat_inj]
    rw [← hEE]
    have HFIN := hide hfin
    clear hr8 hb8 hg8 hfin hEE
    go_wp2
    go_ret
    refine ⟨ret_bool ?_, HB9.out⟩
    rw [← HFIN.out]
end Go.Proofs.Ytnnhgennmlkpmaa
