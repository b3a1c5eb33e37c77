/-
  Walks over package frame: May.
-/
import Derived.Test.YtnnhgennmlkpmaaFrB
import Derived.Laws.StructEq
namespace Go.Proofs.Ytnnhgennmlkpmaa
open Go.RowKit
set_option linter.unusedVariables false
set_option linter.unusedSimpArgs false

/-- a frame in a variable -/
def FrAt (w : World) (q : Nat) (f : Fr) (x : Value) : Prop := w.heap[q]? = some (.cells (frCells f x) 30 (0, 0))
theorem FrAt.cells {w : World} {q : Nat} {f : Fr} {x : Value} (h : FrAt w q f x) :
    w.cell? ⟨q, 0, none⟩ = some (.int .u8 f.kind) ∧ w.cell? ⟨q, 1, none⟩ = some (.int .u32 f.epoch) ∧ w.cell? ⟨q, 2, none⟩ = some (.int .u32 f.series) ∧ w.cell? ⟨q, 3, none⟩ = some (.int .u32 f.chunk) ∧ w.cell? ⟨q, 4, none⟩ = some (.int .u32 f.bits) ∧ w.cell? ⟨q, 5, none⟩ = some (.int .u32 f.cnt) ∧
      w.cell? ⟨q, 6, none⟩ = some (.int .u32 f.count) ∧ w.cell? ⟨q, 7, none⟩ = some (.bool f.closed) ∧ w.cell? ⟨q, 8, none⟩ = some (.int .u64 f.sum) ∧ w.cell? ⟨q, 9, none⟩ = some x ∧ w.cell? ⟨q, 10, none⟩ = some (.int .i64 f.n) := by
  unfold FrAt at h
  refine ⟨?_, ?_, ?_, ?_, ?_, ?_, ?_, ?_, ?_, ?_, ?_⟩ <;> simp [World.cell?, h, frCells]
theorem FrAt.made (w : World) (f : Fr) (x : Value) : FrAt (w.alloc (.cells (frCells f x) 30)) w.heap.size f x := heap_alloc_at w _
theorem FrAt.lt {w : World} {q : Nat} {f : Fr} {x : Value} (h : FrAt w q f x) : q < w.heap.size := (Array.getElem?_eq_some_iff.1 h).1
theorem FrAt.low {w w' : World} {q : Nat} {f : Fr} {x : Value} (h : FrAt w q f x) (hb : Below w.heap.size w w') : FrAt w' q f x := (hb.block q h.lt).trans h

set_option maxRecDepth 100000 in
set_option maxHeartbeats 1600000 in
theorem fr_may1 (f : Fr) (a : Option Addr) (c : Nat) (w : World) (hf : f.Ok) (hl : f.b.length ≤ 1000000) (hx : RdB w (.slice a f.b.length c) f.b) (hk : f.kind = 1) :
    Calls Try.prog 11 #[frV f (.slice a f.b.length c)] w fun e w' => e = .returned (.bool (mayB f)) ∧ Below w.heap.size w w' := by
  have hm : Hid (mayB f = (noneB f && (decide (f.series = 0) && (decide (f.chunk = 0 ∧ f.bits = 0 ∧ f.cnt = 0) && (decide (f.count = 0) && (!f.closed && decide (f.sum = 0))))))) := hide (by unfold mayB; rw [if_pos hk])
  have k1 : ((f.kind : Int) == 1) = true := by simp [hk]
  clear hk
  have hA := FrAt.made w f (.slice a f.b.length c)
  have hX := hide (hx.low (below_alloc w (.cells (frCells f (.slice a f.b.length c)) 30)))
  obtain ⟨kind, epoch, series, chunk, bits_, cnt, count, closed, sum, b, n⟩ := f
  obtain ⟨o1, o2, o3, o4, o5, o6, o7, o8, o9, o10⟩ := hf
  simp only at *
  have HA := hide hA
  unfold frV frCells
  unfold frCells at HA hX
  clear hA hx
  go_enter Try.func11, Try.ntmps11
  go_wp2_with fail
  refine (fr_none a b.length c n _ (by omega)).mono ?_
  rintro e w2 ⟨rfl, hb⟩
  have hA2 := HA.out.low hb
  obtain ⟨c0, c1, c2, c3, c4, c5, c6, c7, c8, c9, c10⟩ := hA2.cells
  have hbW : Hid (Below w.heap.size w w2) := hide ((below_alloc w _).trans (hb.mono (by simp)))
  obtain ⟨nb, hnb⟩ : ∃ nb, nb = (decide (n = 0) && decide (b.length = 0)) := ⟨_, rfl⟩
  rw [← hnb]
  have HN := hide hnb
  clear hb hA2 HA hnb
  go_wp2
  all_goals go_ret
  all_goals refine ⟨ret_bool ?_, hbW.out⟩
  all_goals rw [hm.out]
  all_goals unfold noneB
  all_goals simp only
  all_goals rw [← HN.out]
  all_goals try simp [*]
  all_goals try (rw [Bool.eq_iff_iff]; simp)

set_option maxRecDepth 100000 in
set_option maxHeartbeats 1600000 in
theorem fr_may4 (f : Fr) (a : Option Addr) (c : Nat) (w : World) (hf : f.Ok) (hl : f.b.length ≤ 1000000) (hx : RdB w (.slice a f.b.length c) f.b) (hk : f.kind = 4) :
    Calls Try.prog 11 #[frV f (.slice a f.b.length c)] w fun e w' => e = .returned (.bool (mayB f)) ∧ Below w.heap.size w w' := by
  have hm : Hid (mayB f = (noneB f && (decide (f.count = 0) && !f.closed))) := hide (by unfold mayB; rw [if_neg (by omega), if_pos (.inl hk)])
  have k1 : ((f.kind : Int) == 1) = false := by simp [hk]
  have k4 : ((f.kind : Int) == 4) = true := by simp [hk]
  clear hk
  have hA := FrAt.made w f (.slice a f.b.length c)
  have hX := hide (hx.low (below_alloc w (.cells (frCells f (.slice a f.b.length c)) 30)))
  obtain ⟨kind, epoch, series, chunk, bits_, cnt, count, closed, sum, b, n⟩ := f
  obtain ⟨o1, o2, o3, o4, o5, o6, o7, o8, o9, o10⟩ := hf
  simp only at *
  have HA := hide hA
  unfold frV frCells
  unfold frCells at HA hX
  clear hA hx
  go_enter Try.func11, Try.ntmps11
  go_wp2_with fail
  refine (fr_none a b.length c n _ (by omega)).mono ?_
  rintro e w2 ⟨rfl, hb⟩
  have hA2 := HA.out.low hb
  obtain ⟨c0, c1, c2, c3, c4, c5, c6, c7, c8, c9, c10⟩ := hA2.cells
  have hbW : Hid (Below w.heap.size w w2) := hide ((below_alloc w _).trans (hb.mono (by simp)))
  obtain ⟨nb, hnb⟩ : ∃ nb, nb = (decide (n = 0) && decide (b.length = 0)) := ⟨_, rfl⟩
  rw [← hnb]
  have HN := hide hnb
  clear hb hA2 HA hnb
  go_wp2
  all_goals go_ret
  all_goals refine ⟨ret_bool ?_, hbW.out⟩
  all_goals rw [hm.out]
  all_goals unfold noneB
  all_goals simp only
  all_goals rw [← HN.out]
  all_goals try simp [*]
  all_goals try (rw [Bool.eq_iff_iff]; simp)

set_option maxRecDepth 100000 in
set_option maxHeartbeats 1600000 in
theorem fr_may5 (f : Fr) (a : Option Addr) (c : Nat) (w : World) (hf : f.Ok) (hl : f.b.length ≤ 1000000) (hx : RdB w (.slice a f.b.length c) f.b) (hk : f.kind = 5) :
    Calls Try.prog 11 #[frV f (.slice a f.b.length c)] w fun e w' => e = .returned (.bool (mayB f)) ∧ Below w.heap.size w w' := by
  have hm : Hid (mayB f = (noneB f && (decide (f.count = 0) && !f.closed))) := hide (by unfold mayB; rw [if_neg (by omega), if_pos (.inr hk)])
  have k1 : ((f.kind : Int) == 1) = false := by simp [hk]
  have k4 : ((f.kind : Int) == 4) = false := by simp [hk]
  have k5 : ((f.kind : Int) == 5) = true := by simp [hk]
  clear hk
  have hA := FrAt.made w f (.slice a f.b.length c)
  have hX := hide (hx.low (below_alloc w (.cells (frCells f (.slice a f.b.length c)) 30)))
  obtain ⟨kind, epoch, series, chunk, bits_, cnt, count, closed, sum, b, n⟩ := f
  obtain ⟨o1, o2, o3, o4, o5, o6, o7, o8, o9, o10⟩ := hf
  simp only at *
  have HA := hide hA
  unfold frV frCells
  unfold frCells at HA hX
  clear hA hx
  go_enter Try.func11, Try.ntmps11
  go_wp2_with fail
  refine (fr_none a b.length c n _ (by omega)).mono ?_
  rintro e w2 ⟨rfl, hb⟩
  have hA2 := HA.out.low hb
  obtain ⟨c0, c1, c2, c3, c4, c5, c6, c7, c8, c9, c10⟩ := hA2.cells
  have hbW : Hid (Below w.heap.size w w2) := hide ((below_alloc w _).trans (hb.mono (by simp)))
  obtain ⟨nb, hnb⟩ : ∃ nb, nb = (decide (n = 0) && decide (b.length = 0)) := ⟨_, rfl⟩
  rw [← hnb]
  have HN := hide hnb
  clear hb hA2 HA hnb
  go_wp2
  all_goals go_ret
  all_goals refine ⟨ret_bool ?_, hbW.out⟩
  all_goals rw [hm.out]
  all_goals unfold noneB
  all_goals simp only
  all_goals rw [← HN.out]
  all_goals try simp [*]
  all_goals try (rw [Bool.eq_iff_iff]; simp)

set_option maxRecDepth 100000 in
set_option maxHeartbeats 1600000 in
theorem fr_may3y (f : Fr) (a : Option Addr) (c : Nat) (w : World) (hf : f.Ok) (hl : f.b.length ≤ 1000000) (hx : RdB w (.slice a f.b.length c) f.b) (hk : f.kind = 3) (hz : f.bits = 0 ∧ f.cnt = 0 ∧ f.sum = 0) :
    Calls Try.prog 11 #[frV f (.slice a f.b.length c)] w fun e w' => e = .returned (.bool (mayB f)) ∧ Below w.heap.size w w' := by
  have hm : Hid (mayB f = (decide (f.bits = 0 ∧ f.cnt = 0 ∧ f.sum = 0) && fullB f)) := hide (by unfold mayB; rw [if_neg (by omega), if_neg (by omega), if_pos hk])
  have k1 : ((f.kind : Int) == 1) = false := by simp [hk]
  have k4 : ((f.kind : Int) == 4) = false := by simp [hk]
  have k5 : ((f.kind : Int) == 5) = false := by simp [hk]
  have k3 : ((f.kind : Int) == 3) = true := by simp [hk]
  have z1 : ((f.bits : Int) != 0) = false := by simp [hz.1]
  have z2 : ((f.cnt : Int) != 0) = false := by simp [hz.2.1]
  have z3 : ((f.sum : Int) != 0) = false := by simp [hz.2.2]
  have HZ := hide hz
  clear hk hz
  have hA := FrAt.made w f (.slice a f.b.length c)
  have hX := hide (hx.low (below_alloc w (.cells (frCells f (.slice a f.b.length c)) 30)))
  obtain ⟨kind, epoch, series, chunk, bits_, cnt, count, closed, sum, b, n⟩ := f
  obtain ⟨o1, o2, o3, o4, o5, o6, o7, o8, o9, o10⟩ := hf
  simp only at *
  have HA := hide hA
  unfold frV frCells
  unfold frCells at HA hX
  clear hA hx
  go_enter Try.func11, Try.ntmps11
  have hW : Hid (Below w.heap.size w (w.alloc (.cells #[.int .u8 kind, .int .u32 epoch, .int .u32 series, .int .u32 chunk, .int .u32 bits_, .int .u32 cnt, .int .u32 count, .bool closed, .int .u64 sum, .slice a b.length c, .int .i64 n] 30))) := hide (below_alloc w _)
  go_wp2_with (go_at_call 21; refine (bit_sound a c b n _ hX.out (by omega) o9 o10).mono ?_; rintro e w2 ⟨rfl, hb⟩; have hA2 := HA.out.low hb; obtain ⟨c0, c1, c2, c3, c4, c5, c6, c7, c8, c9, c10⟩ := hA2.cells; have hbW : Hid (Below w.heap.size w w2) := hide ((below_alloc w _).trans (hb.mono (by simp))); obtain ⟨nb, hnb⟩ : ∃ nb, nb = soundB b n := ⟨_, rfl⟩; rw [← hnb]; have HN := hide hnb; clear hb hA2 hnb)
  all_goals try go_wp2
  all_goals go_ret
  all_goals refine ⟨ret_bool ?_, by first | exact hbW.out | exact hW.out⟩
  all_goals rw [hm.out, decide_eq_true HZ.out]
  all_goals unfold fullB
  all_goals simp only
  all_goals try rw [← HN.out]
  all_goals try simp [*]
  all_goals try (rw [Bool.eq_iff_iff]; simp; omega)
  all_goals try (intros; omega)

set_option maxRecDepth 100000 in
set_option maxHeartbeats 1600000 in
theorem fr_may3n (f : Fr) (a : Option Addr) (c : Nat) (w : World) (hf : f.Ok) (hk : f.kind = 3) (hz : ¬ (f.bits = 0 ∧ f.cnt = 0 ∧ f.sum = 0)) :
    Calls Try.prog 11 #[frV f (.slice a f.b.length c)] w fun e w' => e = .returned (.bool (mayB f)) ∧ Below w.heap.size w w' := by
  have hm : Hid (mayB f = false) := hide (by unfold mayB; rw [if_neg (by omega), if_neg (by omega), if_pos hk, decide_eq_false hz]; rfl)
  have k1 : ((f.kind : Int) == 1) = false := by simp [hk]
  have k4 : ((f.kind : Int) == 4) = false := by simp [hk]
  have k5 : ((f.kind : Int) == 5) = false := by simp [hk]
  have k3 : ((f.kind : Int) == 3) = true := by simp [hk]
  clear hk
  obtain ⟨kind, epoch, series, chunk, bits_, cnt, count, closed, sum, b, n⟩ := f
  simp only at *
  unfold frV frCells
  by_cases g1 : bits_ = 0
  · have z1 : ((bits_ : Int) != 0) = false := by simp [g1]
    by_cases g2 : cnt = 0
    · have z2 : ((cnt : Int) != 0) = false := by simp [g2]
      have z3 : ((sum : Int) != 0) = true := by rw [bne_iff_ne]; omega
      clear g1 g2 hz
      go_enter Try.func11, Try.ntmps11
      go_wp2
      go_ret
      exact ⟨ret_bool hm.out.symm, below_alloc _ _⟩
    · have z2 : ((cnt : Int) != 0) = true := by rw [bne_iff_ne]; omega
      clear g1 g2 hz
      go_enter Try.func11, Try.ntmps11
      go_wp2
      go_ret
      exact ⟨ret_bool hm.out.symm, below_alloc _ _⟩
  · have z1 : ((bits_ : Int) != 0) = true := by rw [bne_iff_ne]; omega
    clear g1 hz
    go_enter Try.func11, Try.ntmps11
    go_wp2
    go_ret
    exact ⟨ret_bool hm.out.symm, below_alloc _ _⟩
set_option maxRecDepth 100000 in
set_option maxHeartbeats 1600000 in
theorem fr_may2 (f : Fr) (a : Option Addr) (c : Nat) (w : World) (hf : f.Ok) (hl : f.b.length ≤ 1000000) (hx : RdB w (.slice a f.b.length c) f.b) (hk : f.kind = 2) :
    Calls Try.prog 11 #[frV f (.slice a f.b.length c)] w fun e w' => e = .returned (.bool (mayB f)) ∧ Below w.heap.size w w' := by
  have hm : Hid (mayB f = fullB f) := hide (by unfold mayB; rw [if_neg (by omega), if_neg (by omega), if_neg (by omega), if_pos hk])
  have k1 : ((f.kind : Int) == 1) = false := by simp [hk]
  have k4 : ((f.kind : Int) == 4) = false := by simp [hk]
  have k5 : ((f.kind : Int) == 5) = false := by simp [hk]
  have k3 : ((f.kind : Int) == 3) = false := by simp [hk]
  have k2 : ((f.kind : Int) == 2) = true := by simp [hk]
  clear hk
  have hA := FrAt.made w f (.slice a f.b.length c)
  have hX := hide (hx.low (below_alloc w (.cells (frCells f (.slice a f.b.length c)) 30)))
  obtain ⟨kind, epoch, series, chunk, bits_, cnt, count, closed, sum, b, n⟩ := f
  obtain ⟨o1, o2, o3, o4, o5, o6, o7, o8, o9, o10⟩ := hf
  simp only at *
  have HA := hide hA
  unfold frV frCells
  unfold frCells at HA hX
  clear hA hx
  go_enter Try.func11, Try.ntmps11
  have hW : Hid (Below w.heap.size w (w.alloc (.cells #[.int .u8 kind, .int .u32 epoch, .int .u32 series, .int .u32 chunk, .int .u32 bits_, .int .u32 cnt, .int .u32 count, .bool closed, .int .u64 sum, .slice a b.length c, .int .i64 n] 30))) := hide (below_alloc w _)
  go_wp2_with (go_at_call 21; refine (bit_sound a c b n _ hX.out (by omega) o9 o10).mono ?_; rintro e w2 ⟨rfl, hb⟩; have hA2 := HA.out.low hb; obtain ⟨c0, c1, c2, c3, c4, c5, c6, c7, c8, c9, c10⟩ := hA2.cells; have hbW : Hid (Below w.heap.size w w2) := hide ((below_alloc w _).trans (hb.mono (by simp))); obtain ⟨nb, hnb⟩ : ∃ nb, nb = soundB b n := ⟨_, rfl⟩; rw [← hnb]; have HN := hide hnb; clear hb hA2 hnb)
  all_goals try go_wp2
  all_goals go_ret
  all_goals refine ⟨ret_bool ?_, by first | exact hbW.out | exact hW.out⟩
  all_goals rw [hm.out]
  all_goals unfold fullB
  all_goals simp only
  all_goals try rw [← HN.out]
  all_goals try simp [*]
  all_goals try (rw [Bool.eq_iff_iff]; simp; omega)
  all_goals try (intros; omega)

set_option maxRecDepth 100000 in
set_option maxHeartbeats 1600000 in
theorem fr_may0 (f : Fr) (a : Option Addr) (c : Nat) (w : World) (hf : f.Ok) (hl : f.b.length ≤ 1000000) (hx : RdB w (.slice a f.b.length c) f.b) (hk : f.kind ≠ 1 ∧ f.kind ≠ 2 ∧ f.kind ≠ 3 ∧ f.kind ≠ 4 ∧ f.kind ≠ 5) :
    Calls Try.prog 11 #[frV f (.slice a f.b.length c)] w fun e w' => e = .returned (.bool (mayB f)) ∧ Below w.heap.size w w' := by
  have hm : Hid (mayB f = false) := hide (by unfold mayB; rw [if_neg (by omega), if_neg (by omega), if_neg (by omega), if_neg (by omega)])
  have k1 : ((f.kind : Int) == 1) = false := by rw [beq_eq_false_iff_ne]; omega
  have k4 : ((f.kind : Int) == 4) = false := by rw [beq_eq_false_iff_ne]; omega
  have k5 : ((f.kind : Int) == 5) = false := by rw [beq_eq_false_iff_ne]; omega
  have k3 : ((f.kind : Int) == 3) = false := by rw [beq_eq_false_iff_ne]; omega
  have k2 : ((f.kind : Int) == 2) = false := by rw [beq_eq_false_iff_ne]; omega
  clear hk
  have hA := FrAt.made w f (.slice a f.b.length c)
  have hX := hide (hx.low (below_alloc w (.cells (frCells f (.slice a f.b.length c)) 30)))
  obtain ⟨kind, epoch, series, chunk, bits_, cnt, count, closed, sum, b, n⟩ := f
  obtain ⟨o1, o2, o3, o4, o5, o6, o7, o8, o9, o10⟩ := hf
  simp only at *
  have HA := hide hA
  unfold frV frCells
  unfold frCells at HA hX
  clear hA hx
  go_enter Try.func11, Try.ntmps11
  go_wp2
  go_ret
  exact ⟨ret_bool hm.out.symm, below_alloc _ _⟩

theorem fr_may (f : Fr) (a : Option Addr) (c : Nat) (w : World) (hf : f.Ok) (hl : f.b.length ≤ 1000000) (hx : RdB w (.slice a f.b.length c) f.b) :
    Calls Try.prog 11 #[frV f (.slice a f.b.length c)] w fun e w' => e = .returned (.bool (mayB f)) ∧ Below w.heap.size w w' := by
  by_cases h1 : f.kind = 1
  · exact fr_may1 f a c w hf hl hx h1
  by_cases h2 : f.kind = 2
  · exact fr_may2 f a c w hf hl hx h2
  by_cases h3 : f.kind = 3
  · by_cases hz : f.bits = 0 ∧ f.cnt = 0 ∧ f.sum = 0
    · exact fr_may3y f a c w hf hl hx h3 hz
    · exact fr_may3n f a c w hf h3 hz
  by_cases h4 : f.kind = 4
  · exact fr_may4 f a c w hf hl hx h4
  by_cases h5 : f.kind = 5
  · exact fr_may5 f a c w hf hl hx h5
  exact fr_may0 f a c w hf hl hx ⟨h1, h2, h3, h4, h5⟩
end Go.Proofs.Ytnnhgennmlkpmaa
