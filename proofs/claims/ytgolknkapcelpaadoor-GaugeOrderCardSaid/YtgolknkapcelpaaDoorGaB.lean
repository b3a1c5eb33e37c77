/-
  The walks of a gauge's find, Count, Value, Total.
-/
import Derived.Test.YtgolknkapcelpaaDoorGaA
namespace Go.Proofs.YtgolknkapcelpaaDoor
open Go.RowKit Go.Maps
set_option linter.unusedVariables false
set_option linter.unusedSimpArgs false

theorem Chg.frame {F F' G : List Nat} {w w' : World} (h : Chg F F' w w') (hG : ∀ k ∈ G, k ∈ F ∨ w.heap.size ≤ k) : Chg F G w w' := ⟨h.os, h.tape, h.output, h.size, h.block, hG⟩

theorem ga_once (gb xb : Nat) (N F : List Nat) (w : World) (h : GRep w gb N F) (hx : w.cell? ⟨xb, 0, none⟩ = some (.pointer (some ⟨gb, 0, none⟩))) (hne : xb ∉ F) (ht : Tab w) :
    Calls Tryd.prog 26 #[.pointer (some ⟨gb, 0, none⟩), .func (.func 27) #[] #[.pointer (some ⟨xb, 0, none⟩)]] w fun e w' => e = .returned (.tuple #[]) ∧
      ∃ mb, GAt w' gb 1 0 (.map (some mb)) N ∧ IntMap w' mb (gE 11) ∧ mb ≠ gb ∧ Chg F [gb, mb] w w' ∧ w'.cell? ⟨xb, 0, none⟩ = some (.pointer (some ⟨gb, 0, none⟩)) := by
  have hxl : xb < w.heap.size := World.block_lt_of_cell? _ _ hx
  rcases h.at_ with ⟨h1, rfl⟩ | ⟨mb, h1, h2, h3, rfl⟩
  · have hxg : xb ≠ gb := by simpa using hne
    obtain ⟨c0, c1, _, fz, hgl, _⟩ := h1.facts
    have hC0 := Chg.ofSet w gb 1 (.int .i32 1)
    have hf := ga_find1 gb xb 0 N (w.setCell ⟨gb, 1, none⟩ (.int .i32 1)) (h1.set1 1) (((hC0.cellAt 0 hxl (by simpa using hxg)).1).trans hx) hxg (ht.chg hC0 (by simpa using tab_ne h1 ht))
    refine (once_first (fun wa wb => ∃ mb, GAt wb gb 0 1 (.map (some mb)) N ∧ IntMap wb mb (gE 11) ∧ wa.heap.size ≤ mb ∧ Chg [gb] [gb, mb] wa wb) gb 0 27 #[] #[.pointer (some ⟨xb, 0, none⟩)] w c0 c1 (fz 0) (fz 1)
      (hf.mono ?_) (enters_of Tryd.func27 (by kernel_rfl) rfl _)).mono ?_
    · rintro e w' ⟨rfl, mb, g1, g2, g3, g4⟩
      obtain ⟨d0, d1, _, dz, _, _⟩ := g1.facts
      obtain ⟨k0, k1, _⟩ := (h1.set1 1).facts
      exact ⟨rfl, d0.trans k0.symm, d1.trans k1.symm, dz 0, dz 1, mb, g1, g2, g3, g4⟩
    · rintro e w' ⟨rfl, w2, ⟨mb, g1, g2, g3, g4⟩, rfl⟩
      have hsz : (w.setCell ⟨gb, 1, none⟩ (.int .i32 1)).heap.size = w.heap.size := by simp [World.setCell]
      have g3' : (w.setCell ⟨gb, 1, none⟩ (.int .i32 1)).heap.size ≤ mb := g3
      have hmg : mb ≠ gb := by omega
      have g1' : GAt w2.drew gb 0 1 (.map (some mb)) N := g1
      have hC : Chg [gb] [gb] w2 ((w2.drew.setCell ⟨gb, 0, none⟩ (.int .u32 1)).setCell ⟨gb, 1, none⟩ (.int .i32 0)) := Chg.undrew ((Chg.ofSet _ gb 0 _).trans (Chg.ofSet _ gb 1 _))
      have hCC : Chg [gb] [gb, mb] w ((w2.drew.setCell ⟨gb, 0, none⟩ (.int .u32 1)).setCell ⟨gb, 1, none⟩ (.int .i32 0)) := by
        have h5 := hC0.trans (g4.trans (F := [gb]) (G := [gb, mb]) (H := [gb, mb]) ⟨hC.os, hC.tape, hC.output, hC.size, fun k hk hn => hC.block k hk fun hm => hn (by simp only [List.mem_singleton] at hm; simp [hm]), fun k hk => .inl hk⟩)
        exact h5
      refine ⟨rfl, mb, (g1'.set0 1).set1 0, g2.same (hC.block mb g2.lt (by simpa using hmg)), hmg, hCC, ((hCC.cellAt 0 hxl (by simpa using hxg)).1).trans hx⟩
  · refine (once_done ⟨gb, 0, none⟩ _ w h1.facts.1).mono ?_
    rintro e w' ⟨rfl, rfl⟩
    exact ⟨rfl, mb, h1, h2, h3, Chg.refl _ _, hx⟩

set_option maxRecDepth 100000 in
set_option maxHeartbeats 1600000 in
theorem ga_find (gb : Nat) (N F : List Nat) (k : Bs) (hk : k.length ≤ maxLen) (w : World) (h : GRep w gb N F) (ht : Tab w) :
    Calls Tryd.prog 20 #[.pointer (some ⟨gb, 0, none⟩), .string ⟨k.toArray⟩] w fun e w' => e = .returned (.pointer ((nmIdx k).map fun i => ⟨gb, 4 + i, none⟩)) ∧ ∃ F', GRep w' gb N F' ∧ Chg F F' w w' := by
  obtain ⟨w1, hw1⟩ : ∃ w1, w1 = w.alloc (.cells #[.pointer (some ⟨gb, 0, none⟩)] 25) := ⟨_, rfl⟩
  have hb := below_alloc w (.cells #[.pointer (some ⟨gb, 0, none⟩)] 25)
  have hg := heap_alloc_at w (.cells #[.pointer (some ⟨gb, 0, none⟩)] 25)
  rw [← hw1] at hb hg
  obtain ⟨xb, hxb⟩ : ∃ xb, xb = w.heap.size := ⟨_, rfl⟩
  have hx : w1.cell? ⟨w.heap.size, 0, none⟩ = some (.pointer (some ⟨gb, 0, none⟩)) := by simp [World.cell?, hg]
  have hxF : Hid (xb ∉ F) := hide fun hm => by have := h.lt _ hm; omega
  have HL := hide h.len; have HSM := hide h.small
  have H1 := hide (h.low hb); have HT1 := hide (ht.low hb); have HB := hide hb
  have HW := hide hw1
  clear h ht hb hg
  cases hi : nmIdx k with
  | none =>
    have hgv : Hid (mget k (gE 11) = none) := hide (by rw [mget_gE, hi]; rfl)
    go_enter Tryd.func20, Tryd.ntmps20
    go_upto_region 1 with fail
    rw [← HW.out]
    clear hw1
    rw [← hxb] at hx ⊢
    clear hxb
    go_wp2_with (first
      | (go_at_call 26; refine (ga_once gb xb N F w1 H1.out hx hxF.out HT1.out).mono ?_; rintro e w2 ⟨rfl, mb, g1, g2, g3, g4, g5⟩; have G1 := hide g1; have G2 := hide g2; have G3 := hide g3; have G4 := hide g4; have x3 := g1.facts.2.2.1; clear g1 g2 g3 g4 hx)
      | (at_lookup; refine wpList_mlook keysGa rfl _ _ 52 rfl 3 Tryd.underlying52 (zero_int _) rfl rfl G2.out k rfl hk _ hgv.out _ rfl ?_))
    go_ret
    exact ⟨rfl, _, ⟨HL.out, HSM.out, .inr ⟨mb, G1.out, G2.out, G3.out, rfl⟩⟩, (Chg.of_below HB.out).trans G4.out⟩
  | some i =>
    have hi11 := nmIdx_lt hi
    have hgv : Hid (mget k (gE 11) = some ((i + 1 : Nat) : Int)) := hide (by rw [mget_gE, hi]; rfl)
    have hne : ¬ (((i + 1 : Nat) : Int) = 0) := by omega
    have hne2 : (((i + 1 : Nat) : Int) == 0) = false := by simpa using hne
    have hwi : IntKind.i64.wrap (((i + 1 : Nat) : Int) - 1) = (i : Int) := by rw [wrapI (by omega) (by omega)]; omega
    have i1 : (i : Int) < 11 := by omega
    obtain ⟨j, hj⟩ : ∃ j, j = ((i + 1 : Nat) : Int) := ⟨_, rfl⟩
    rw [← hj] at hgv hne hne2 hwi
    clear hj
    go_enter Tryd.func20, Tryd.ntmps20
    go_upto_region 1 with fail
    rw [← HW.out]
    clear hw1
    rw [← hxb] at hx ⊢
    clear hxb
    go_wp2_with (first
      | (go_at_call 26; refine (ga_once gb xb N F w1 H1.out hx hxF.out HT1.out).mono ?_; rintro e w2 ⟨rfl, mb, g1, g2, g3, g4, g5⟩; have G1 := hide g1; have G2 := hide g2; have G3 := hide g3; have G4 := hide g4; have x3 := g1.facts.2.2.1; clear g1 g2 g3 g4 hx)
      | (at_lookup; refine wpList_mlook keysGa rfl _ _ 52 rfl 3 Tryd.underlying52 (zero_int _) rfl rfl G2.out k rfl hk _ hgv.out _ rfl ?_))
    go_ret
    exact ⟨rfl, _, ⟨HL.out, HSM.out, .inr ⟨mb, G1.out, G2.out, G3.out, rfl⟩⟩, (Chg.of_below HB.out).trans G4.out⟩
end Go.Proofs.YtgolknkapcelpaaDoor
