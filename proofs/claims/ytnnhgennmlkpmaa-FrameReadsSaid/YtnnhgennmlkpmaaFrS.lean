/-
  Walks over the reference of frames: May.
-/
import Derived.Test.YtnnhgennmlkpmaaFrR
namespace Go.Proofs.Ytnnhgennmlkpmaa
open Go.RowKit
set_option linter.unusedVariables false
set_option linter.unusedSimpArgs false

set_option maxRecDepth 100000 in
set_option maxHeartbeats 1600000 in
theorem ref_may1 (f : Fr) (a : Option Addr) (c : Nat) (w : World) (hf : f.Ok) (hl : f.b.length ≤ 1000000) (hx : RdB w (.slice a f.b.length c) f.b) (hk : f.kind = 1) :
    Calls Try.prog 12 #[frV f (.slice a f.b.length c)] w fun e w' => e = .returned (.bool (mayB f)) ∧ Below w.heap.size w w' := by
  have hm : Hid (mayB f = (noneB f && (decide (f.series = 0) && (decide (f.chunk = 0 ∧ f.bits = 0 ∧ f.cnt = 0) && (decide (f.count = 0) && (!f.closed && decide (f.sum = 0))))))) := hide (by unfold mayB; rw [if_pos hk])
  have k1 : ((f.kind : Int) == 1) = true := by simp [hk]
  clear hk
  have hA := FrAt.made w f (.slice a f.b.length c)
  have hX := hide (hx.low (below_alloc w (.cells (frCells f (.slice a f.b.length c)) 30)))
  obtain ⟨kind, epoch, series, chunk, bits_, cnt, count, closed, sum, b, n⟩ := f
  obtain ⟨o1, o2, o3, o4, o5, o6, o7, o8, o9, o10⟩ := hf
  simp only at *
  have HA := hide hA
  unfold frV frCells
  unfold frCells at HA hX
  clear hA hx
  go_enter Try.func12, Try.ntmps12
  go_wp2_with fail
  refine (ref_none a b.length c n _ (by omega)).mono ?_
  rintro e w2 ⟨rfl, hb⟩
  have hA2 := HA.out.low hb
  obtain ⟨c0, c1, c2, c3, c4, c5, c6, c7, c8, c9, c10⟩ := hA2.cells
  have hbW : Hid (Below w.heap.size w w2) := hide ((below_alloc w _).trans (hb.mono (by simp)))
  have HA3 := hide hA2
  have HX2 := hide (hX.out.low hb)
  obtain ⟨nb, hnb⟩ : ∃ nb, nb = (decide (n = 0) && decide (b.length = 0)) := ⟨_, rfl⟩
  rw [← hnb]
  have HN := hide hnb
  clear hb hA2 HA hnb
  go_wp2
  all_goals go_ret
  all_goals refine ⟨ret_bool ?_, hbW.out⟩
  all_goals rw [hm.out]
  all_goals try unfold noneB
  all_goals try simp only
  all_goals try rw [← HN.out]
  all_goals try simp [*]
  all_goals try (rw [Bool.eq_iff_iff]; simp)

set_option maxRecDepth 100000 in
set_option maxHeartbeats 1600000 in
theorem ref_may4 (f : Fr) (a : Option Addr) (c : Nat) (w : World) (hf : f.Ok) (hl : f.b.length ≤ 1000000) (hx : RdB w (.slice a f.b.length c) f.b) (hk : f.kind = 4) :
    Calls Try.prog 12 #[frV f (.slice a f.b.length c)] w fun e w' => e = .returned (.bool (mayB f)) ∧ Below w.heap.size w w' := by
  have hm : Hid (mayB f = (noneB f && (decide (f.count = 0) && !f.closed))) := hide (by unfold mayB; rw [if_neg (by omega), if_pos (.inl hk)])
  have k1 : ((f.kind : Int) == 1) = false := by simp [hk]
  have k4 : ((f.kind : Int) == 4) = true := by simp [hk]
  clear hk
  have hA := FrAt.made w f (.slice a f.b.length c)
  have hX := hide (hx.low (below_alloc w (.cells (frCells f (.slice a f.b.length c)) 30)))
  obtain ⟨kind, epoch, series, chunk, bits_, cnt, count, closed, sum, b, n⟩ := f
  obtain ⟨o1, o2, o3, o4, o5, o6, o7, o8, o9, o10⟩ := hf
  simp only at *
  have HA := hide hA
  unfold frV frCells
  unfold frCells at HA hX
  clear hA hx
  go_enter Try.func12, Try.ntmps12
  go_wp2_with fail
  refine (ref_none a b.length c n _ (by omega)).mono ?_
  rintro e w2 ⟨rfl, hb⟩
  have hA2 := HA.out.low hb
  obtain ⟨c0, c1, c2, c3, c4, c5, c6, c7, c8, c9, c10⟩ := hA2.cells
  have hbW : Hid (Below w.heap.size w w2) := hide ((below_alloc w _).trans (hb.mono (by simp)))
  have HA3 := hide hA2
  have HX2 := hide (hX.out.low hb)
  obtain ⟨nb, hnb⟩ : ∃ nb, nb = (decide (n = 0) && decide (b.length = 0)) := ⟨_, rfl⟩
  rw [← hnb]
  have HN := hide hnb
  clear hb hA2 HA hnb
  go_wp2
  all_goals go_ret
  all_goals refine ⟨ret_bool ?_, hbW.out⟩
  all_goals rw [hm.out]
  all_goals try unfold noneB
  all_goals try simp only
  all_goals try rw [← HN.out]
  all_goals try simp [*]
  all_goals try (rw [Bool.eq_iff_iff]; simp)

set_option maxRecDepth 100000 in
set_option maxHeartbeats 1600000 in
theorem ref_may5 (f : Fr) (a : Option Addr) (c : Nat) (w : World) (hf : f.Ok) (hl : f.b.length ≤ 1000000) (hx : RdB w (.slice a f.b.length c) f.b) (hk : f.kind = 5) :
    Calls Try.prog 12 #[frV f (.slice a f.b.length c)] w fun e w' => e = .returned (.bool (mayB f)) ∧ Below w.heap.size w w' := by
  have hm : Hid (mayB f = (noneB f && (decide (f.count = 0) && !f.closed))) := hide (by unfold mayB; rw [if_neg (by omega), if_pos (.inr hk)])
  have k1 : ((f.kind : Int) == 1) = false := by simp [hk]
  have k4 : ((f.kind : Int) == 4) = false := by simp [hk]
  have k5 : ((f.kind : Int) == 5) = true := by simp [hk]
  clear hk
  have hA := FrAt.made w f (.slice a f.b.length c)
  have hX := hide (hx.low (below_alloc w (.cells (frCells f (.slice a f.b.length c)) 30)))
  obtain ⟨kind, epoch, series, chunk, bits_, cnt, count, closed, sum, b, n⟩ := f
  obtain ⟨o1, o2, o3, o4, o5, o6, o7, o8, o9, o10⟩ := hf
  simp only at *
  have HA := hide hA
  unfold frV frCells
  unfold frCells at HA hX
  clear hA hx
  go_enter Try.func12, Try.ntmps12
  go_wp2_with fail
  refine (ref_none a b.length c n _ (by omega)).mono ?_
  rintro e w2 ⟨rfl, hb⟩
  have hA2 := HA.out.low hb
  obtain ⟨c0, c1, c2, c3, c4, c5, c6, c7, c8, c9, c10⟩ := hA2.cells
  have hbW : Hid (Below w.heap.size w w2) := hide ((below_alloc w _).trans (hb.mono (by simp)))
  have HA3 := hide hA2
  have HX2 := hide (hX.out.low hb)
  obtain ⟨nb, hnb⟩ : ∃ nb, nb = (decide (n = 0) && decide (b.length = 0)) := ⟨_, rfl⟩
  rw [← hnb]
  have HN := hide hnb
  clear hb hA2 HA hnb
  go_wp2
  all_goals go_ret
  all_goals refine ⟨ret_bool ?_, hbW.out⟩
  all_goals rw [hm.out]
  all_goals try unfold noneB
  all_goals try simp only
  all_goals try rw [← HN.out]
  all_goals try simp [*]
  all_goals try (rw [Bool.eq_iff_iff]; simp)

set_option maxRecDepth 100000 in
set_option maxHeartbeats 1600000 in
theorem ref_may2 (f : Fr) (a : Option Addr) (c : Nat) (w : World) (hf : f.Ok) (hl : f.b.length ≤ 1000000) (hx : RdB w (.slice a f.b.length c) f.b) (hk : f.kind = 2) :
    Calls Try.prog 12 #[frV f (.slice a f.b.length c)] w fun e w' => e = .returned (.bool (mayB f)) ∧ Below w.heap.size w w' := by
  have hm : Hid (mayB f = fullB f) := hide (by unfold mayB; rw [if_neg (by omega), if_neg (by omega), if_neg (by omega), if_pos hk])
  have k1 : ((f.kind : Int) == 1) = false := by simp [hk]
  have k4 : ((f.kind : Int) == 4) = false := by simp [hk]
  have k5 : ((f.kind : Int) == 5) = false := by simp [hk]
  have k3 : ((f.kind : Int) == 3) = false := by simp [hk]
  have k2 : ((f.kind : Int) == 2) = true := by simp [hk]
  clear hk
  have hA := FrAt.made w f (.slice a f.b.length c)
  have hX := hide (hx.low (below_alloc w (.cells (frCells f (.slice a f.b.length c)) 30)))
  obtain ⟨kind, epoch, series, chunk, bits_, cnt, count, closed, sum, b, n⟩ := f
  obtain ⟨o1, o2, o3, o4, o5, o6, o7, o8, o9, o10⟩ := hf
  simp only at *
  have HA := hide hA
  unfold frV frCells
  unfold frCells at HA hX
  clear hA hx
  go_enter Try.func12, Try.ntmps12
  go_wp2_with fail
  refine (ref_none a b.length c n _ (by omega)).mono ?_
  rintro e w2 ⟨rfl, hb⟩
  have hA2 := HA.out.low hb
  obtain ⟨c0, c1, c2, c3, c4, c5, c6, c7, c8, c9, c10⟩ := hA2.cells
  have hbW : Hid (Below w.heap.size w w2) := hide ((below_alloc w _).trans (hb.mono (by simp)))
  have HA3 := hide hA2
  have HX2 := hide (hX.out.low hb)
  obtain ⟨nb, hnb⟩ : ∃ nb, nb = (decide (n = 0) && decide (b.length = 0)) := ⟨_, rfl⟩
  rw [← hnb]
  have HN := hide hnb
  clear hb hA2 HA hnb
  go_wp2_with fail
  refine (ref_sound a c b n _ HX2.out (by omega) o9 o10).mono ?_
  rintro e w3 ⟨rfl, hb⟩
  clear c0 c1 c2 c3 c4 c5 c6 c7 c8 c9 c10
  have hA2 := HA3.out.low hb
  obtain ⟨c0, c1, c2, c3, c4, c5, c6, c7, c8, c9, c10⟩ := hA2.cells
  have hbW2 : Hid (Below w.heap.size w w3) := hide (hbW.out.trans (hb.mono hbW.out.size))
  obtain ⟨sb, hsb⟩ : ∃ sb, sb = soundB b n := ⟨_, rfl⟩
  rw [← hsb]
  have HS := hide hsb
  clear hb hA2 hsb HA3 HX2 hX hbW
  go_wp2
  all_goals go_ret
  all_goals refine ⟨ret_bool ?_, hbW2.out⟩
  all_goals rw [hm.out]
  all_goals unfold fullB
  all_goals try simp only
  all_goals try rw [← HS.out]
  all_goals try simp [*]
  all_goals try (rw [Bool.eq_iff_iff]; simp; omega)
  all_goals try (intros; omega)

set_option maxRecDepth 100000 in
set_option maxHeartbeats 1600000 in
theorem ref_may3 (f : Fr) (a : Option Addr) (c : Nat) (w : World) (hf : f.Ok) (hl : f.b.length ≤ 1000000) (hx : RdB w (.slice a f.b.length c) f.b) (hk : f.kind = 3) :
    Calls Try.prog 12 #[frV f (.slice a f.b.length c)] w fun e w' => e = .returned (.bool (mayB f)) ∧ Below w.heap.size w w' := by
  have hm : Hid (mayB f = (decide (f.bits = 0 ∧ f.cnt = 0 ∧ f.sum = 0) && fullB f)) := hide (by unfold mayB; rw [if_neg (by omega), if_neg (by omega), if_pos hk])
  have k1 : ((f.kind : Int) == 1) = false := by simp [hk]
  have k4 : ((f.kind : Int) == 4) = false := by simp [hk]
  have k5 : ((f.kind : Int) == 5) = false := by simp [hk]
  have k2 : ((f.kind : Int) == 2) = false := by simp [hk]
  have k3 : ((f.kind : Int) == 3) = true := by simp [hk]
  clear hk
  have hA := FrAt.made w f (.slice a f.b.length c)
  have hX := hide (hx.low (below_alloc w (.cells (frCells f (.slice a f.b.length c)) 30)))
  obtain ⟨kind, epoch, series, chunk, bits_, cnt, count, closed, sum, b, n⟩ := f
  obtain ⟨o1, o2, o3, o4, o5, o6, o7, o8, o9, o10⟩ := hf
  simp only at *
  have HA := hide hA
  unfold frV frCells
  unfold frCells at HA hX
  clear hA hx
  go_enter Try.func12, Try.ntmps12
  go_wp2_with fail
  refine (ref_none a b.length c n _ (by omega)).mono ?_
  rintro e w2 ⟨rfl, hb⟩
  have hA2 := HA.out.low hb
  obtain ⟨c0, c1, c2, c3, c4, c5, c6, c7, c8, c9, c10⟩ := hA2.cells
  have hbW : Hid (Below w.heap.size w w2) := hide ((below_alloc w _).trans (hb.mono (by simp)))
  have HA3 := hide hA2
  have HX2 := hide (hX.out.low hb)
  obtain ⟨nb, hnb⟩ : ∃ nb, nb = (decide (n = 0) && decide (b.length = 0)) := ⟨_, rfl⟩
  rw [← hnb]
  have HN := hide hnb
  clear hb hA2 HA hnb
  go_wp2_with fail
  refine (ref_sound a c b n _ HX2.out (by omega) o9 o10).mono ?_
  rintro e w3 ⟨rfl, hb⟩
  clear c0 c1 c2 c3 c4 c5 c6 c7 c8 c9 c10
  have hA2 := HA3.out.low hb
  obtain ⟨c0, c1, c2, c3, c4, c5, c6, c7, c8, c9, c10⟩ := hA2.cells
  have hbW2 : Hid (Below w.heap.size w w3) := hide (hbW.out.trans (hb.mono hbW.out.size))
  obtain ⟨sb, hsb⟩ : ∃ sb, sb = soundB b n := ⟨_, rfl⟩
  rw [← hsb]
  have HS := hide hsb
  clear hb hA2 hsb HA3 HX2 hX hbW
  go_wp2
  all_goals go_ret
  all_goals refine ⟨ret_bool ?_, hbW2.out⟩
  all_goals rw [hm.out]
  all_goals unfold fullB
  all_goals try simp only
  all_goals try rw [← HS.out]
  all_goals try simp [*]
  all_goals try (rw [Bool.eq_iff_iff]; simp; omega)
  all_goals try (intros; omega)

set_option maxRecDepth 100000 in
set_option maxHeartbeats 1600000 in
theorem ref_may0 (f : Fr) (a : Option Addr) (c : Nat) (w : World) (hf : f.Ok) (hl : f.b.length ≤ 1000000) (hx : RdB w (.slice a f.b.length c) f.b) (hk : f.kind ≠ 1 ∧ f.kind ≠ 2 ∧ f.kind ≠ 3 ∧ f.kind ≠ 4 ∧ f.kind ≠ 5) :
    Calls Try.prog 12 #[frV f (.slice a f.b.length c)] w fun e w' => e = .returned (.bool (mayB f)) ∧ Below w.heap.size w w' := by
  have hm : Hid (mayB f = false) := hide (by unfold mayB; rw [if_neg (by omega), if_neg (by omega), if_neg (by omega), if_neg (by omega)])
  have k1 : ((f.kind : Int) == 1) = false := by rw [beq_eq_false_iff_ne]; omega
  have k4 : ((f.kind : Int) == 4) = false := by rw [beq_eq_false_iff_ne]; omega
  have k5 : ((f.kind : Int) == 5) = false := by rw [beq_eq_false_iff_ne]; omega
  have k3 : ((f.kind : Int) == 3) = false := by rw [beq_eq_false_iff_ne]; omega
  have k2 : ((f.kind : Int) == 2) = false := by rw [beq_eq_false_iff_ne]; omega
  clear hk
  have hA := FrAt.made w f (.slice a f.b.length c)
  have hX := hide (hx.low (below_alloc w (.cells (frCells f (.slice a f.b.length c)) 30)))
  obtain ⟨kind, epoch, series, chunk, bits_, cnt, count, closed, sum, b, n⟩ := f
  obtain ⟨o1, o2, o3, o4, o5, o6, o7, o8, o9, o10⟩ := hf
  simp only at *
  have HA := hide hA
  unfold frV frCells
  unfold frCells at HA hX
  clear hA hx
  go_enter Try.func12, Try.ntmps12
  go_wp2_with fail
  refine (ref_none a b.length c n _ (by omega)).mono ?_
  rintro e w2 ⟨rfl, hb⟩
  have hA2 := HA.out.low hb
  obtain ⟨c0, c1, c2, c3, c4, c5, c6, c7, c8, c9, c10⟩ := hA2.cells
  have hbW : Hid (Below w.heap.size w w2) := hide ((below_alloc w _).trans (hb.mono (by simp)))
  have HA3 := hide hA2
  have HX2 := hide (hX.out.low hb)
  obtain ⟨nb, hnb⟩ : ∃ nb, nb = (decide (n = 0) && decide (b.length = 0)) := ⟨_, rfl⟩
  rw [← hnb]
  have HN := hide hnb
  clear hb hA2 HA hnb
  go_wp2
  go_ret
  exact ⟨ret_bool hm.out.symm, hbW.out⟩

theorem ref_may (f : Fr) (a : Option Addr) (c : Nat) (w : World) (hf : f.Ok) (hl : f.b.length ≤ 1000000) (hx : RdB w (.slice a f.b.length c) f.b) :
    Calls Try.prog 12 #[frV f (.slice a f.b.length c)] w fun e w' => e = .returned (.bool (mayB f)) ∧ Below w.heap.size w w' := by
  by_cases h1 : f.kind = 1
  · exact ref_may1 f a c w hf hl hx h1
  by_cases h2 : f.kind = 2
  · exact ref_may2 f a c w hf hl hx h2
  by_cases h3 : f.kind = 3
  · exact ref_may3 f a c w hf hl hx h3
  by_cases h4 : f.kind = 4
  · exact ref_may4 f a c w hf hl hx h4
  by_cases h5 : f.kind = 5
  · exact ref_may5 f a c w hf hl hx h5
  exact ref_may0 f a c w hf hl hx ⟨h1, h2, h3, h4, h5⟩
end Go.Proofs.Ytnnhgennmlkpmaa
