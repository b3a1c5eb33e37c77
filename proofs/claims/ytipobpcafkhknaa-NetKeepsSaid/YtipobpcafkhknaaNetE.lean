/-
  Walks over package net: Bend that is refused, Twice.
-/
import Derived.Test.YtipobpcafkhknaaNetD
namespace Go.Proofs.Ytipobpcafkhknaa
open Go.RowKit
set_option linter.unusedSimpArgs false
set_option linter.unusedVariables false

set_option maxRecDepth 100000 in
set_option maxHeartbeats 800000 in
theorem net_bend_none (nb : Nat) (l : List G) (F : List Nat) (i k : Int) (x : Int) (w : World) (hn : NetRep w nb l F) (hl : l.length ≤ 4096) (hi : i < 0 ∨ l.length ≤ i) :
    Calls Try.prog 19 #[.pointer (some ⟨nb, 0, none⟩), .int .i64 i, .int .i64 k, .int .u8 x] w fun e w' => e = .returned (.bool false) ∧ w = w' := by
  obtain ⟨a0, c0, hc⟩ := hn.head
  go_enter Try.func19, Try.ntmps19
  go_wp2_with (go_at_call 21; refine (net_at_none nb l.length c0 a0 _ _ hl hc hi).mono ?_; rintro e w' ⟨rfl, rfl⟩)
  go_ret
  exact ⟨rfl, rfl⟩

set_option maxRecDepth 100000 in
set_option maxHeartbeats 800000 in
theorem net_bend_no (nb : Nat) (l : List G) (F : List Nat) (i k : Int) (x : Int) (w : World) (g : G) (hn : NetRep w nb l F) (hl : l.length ≤ 4096) (hi : 0 ≤ i) (hg : l[i.toNat]? = some g) (hgl : g.b.length ≤ 4096)
    (hk : k < 0 ∨ g.b.length ≤ k ∨ x = 0) :
    Calls Try.prog 19 #[.pointer (some ⟨nb, 0, none⟩), .int .i64 i, .int .i64 k, .int .u8 x] w fun e w' => e = .returned (.bool false) ∧ w = w' := by
  obtain ⟨v, L, rfl, rfl, hnd, h0, h1, h2⟩ := hn
  obtain ⟨i, rfl⟩ := Int.eq_ofNat_of_zero_le hi
  rw [show ((i : Int)).toNat = i from by omega] at hg
  have hi2 : i < L.length := by simpa using (List.getElem?_eq_some_iff.1 hg).1
  obtain ⟨ab, cap, g', gb, gc, rfl, hg', e0, e1, e2, hfz, hgne, hgo, _⟩ := NetRep.get (nb := nb) h1 h2 i hi2
  obtain rfl : g' = g := by simpa [hg'] using hg
  have c0 : w.cell? ⟨nb, 0, none⟩ = some (.slice (some ⟨ab, 0, none⟩) L.length cap) := by simp [World.cell?, h0]
  have e1' : w.cell? ⟨ab, i * 3 + 1, none⟩ = some (.slice (some ⟨gb, 0, none⟩) g'.b.length gc) := by rw [Nat.mul_comm i 3]; exact e1
  have hl' : L.length ≤ 4096 := by simpa using hl
  clear h0 h1 h2 hnd hg hgo e0 e1 e2 hfz hgne hg'
  by_cases k0 : k < 0
  · go_enter Try.func19, Try.ntmps19
    go_wp2_with (go_at_call 21; refine (net_at nb ab 0 L.length cap _ _ hl' c0 (by omega) (by omega)).mono ?_; rintro e w' ⟨rfl, rfl⟩)
    go_ret
    exact ⟨rfl, rfl⟩
  obtain ⟨k, rfl⟩ := Int.eq_ofNat_of_zero_le (show 0 ≤ k by omega)
  by_cases k1 : g'.b.length ≤ k
  · go_enter Try.func19, Try.ntmps19
    go_wp2_with (go_at_call 21; refine (net_at nb ab 0 L.length cap _ _ hl' c0 (by omega) (by omega)).mono ?_; rintro e w' ⟨rfl, rfl⟩)
    go_ret
    exact ⟨rfl, rfl⟩
  have hx : (x == 0) = true := by simp; omega
  clear hk
  go_enter Try.func19, Try.ntmps19
  go_wp2_with (go_at_call 21; refine (net_at nb ab 0 L.length cap _ _ hl' c0 (by omega) (by omega)).mono ?_; rintro e w' ⟨rfl, rfl⟩)
  go_ret
  exact ⟨rfl, rfl⟩

set_option maxRecDepth 100000 in
set_option maxHeartbeats 800000 in
theorem net_twice_none (nb : Nat) (l : List G) (F : List Nat) (i : Int) (w : World) (hn : NetRep w nb l F) (hl : l.length ≤ 4096) (hi : i < 0 ∨ l.length ≤ i) :
    Calls Try.prog 11 #[.pointer (some ⟨nb, 0, none⟩), .int .i64 i] w fun e w' => e = .returned (.bool false) ∧ w = w' := by
  obtain ⟨a0, c0, hc⟩ := hn.head
  go_enter Try.func11, Try.ntmps11
  go_wp2_with (go_at_call 21; refine (net_at_none nb l.length c0 a0 _ _ hl hc hi).mono ?_; rintro e w' ⟨rfl, rfl⟩)
  go_ret
  exact ⟨rfl, rfl⟩

set_option maxRecDepth 100000 in
set_option maxHeartbeats 800000 in
theorem net_twice_full (nb : Nat) (l : List G) (F : List Nat) (i : Int) (w : World) (hn : NetRep w nb l F) (hl : l.length = 4096) (hi : 0 ≤ i) (hi' : i < l.length) :
    Calls Try.prog 11 #[.pointer (some ⟨nb, 0, none⟩), .int .i64 i] w fun e w' => e = .returned (.bool false) ∧ w = w' := by
  obtain ⟨v, L, rfl, rfl, hnd, h0, h1, h2⟩ := hn
  obtain ⟨i, rfl⟩ := Int.eq_ofNat_of_zero_le hi
  have hi2 : i < L.length := by simpa using hi'
  obtain ⟨ab, cap, g', gb, gc, rfl, hg', e0, e1, e2, hfz, hgne, hgo, _⟩ := NetRep.get (nb := nb) h1 h2 i hi2
  have c0 : w.cell? ⟨nb, 0, none⟩ = some (.slice (some ⟨ab, 0, none⟩) L.length cap) := by simp [World.cell?, h0]
  have hl1 : L.length ≤ 4096 := by simp at hl; omega
  have hl2 : 4096 ≤ L.length := by simp at hl; omega
  clear h0 h1 h2 hnd hgo e0 e1 e2 hfz hgne hg' hl
  go_enter Try.func11, Try.ntmps11
  go_wp2_with (go_at_call 21; refine (net_at nb ab 0 L.length cap _ _ hl1 c0 (by omega) (by omega)).mono ?_; rintro e w' ⟨rfl, rfl⟩)
  go_ret
  exact ⟨rfl, rfl⟩

set_option maxRecDepth 100000 in
set_option maxHeartbeats 1600000 in
theorem net_twice (nb : Nat) (l : List G) (F : List Nat) (i : Int) (w : World) (g : G) (hn : NetRep w nb l F) (hl : l.length < 4096) (hi : 0 ≤ i) (hg : l[i.toNat]? = some g) (hgl : g.b.length ≤ 4096) :
    Calls Try.prog 11 #[.pointer (some ⟨nb, 0, none⟩), .int .i64 i] w (Sent w nb l F g) := by
  obtain ⟨v, L, rfl, rfl, hnd, h0, h1, h2⟩ := hn
  obtain ⟨i, rfl⟩ := Int.eq_ofNat_of_zero_le hi
  rw [show ((i : Int)).toNat = i from by omega] at hg
  have hi2 : i < L.length := by simpa using (List.getElem?_eq_some_iff.1 hg).1
  obtain ⟨ab, cap, g', gb, gc, rfl, hg', e0, e1, e2, hfz, hgne, hgo, _⟩ := NetRep.get (nb := nb) h1 h2 i hi2
  obtain rfl : g' = g := by simpa [hg'] using hg
  have c0 : w.cell? ⟨nb, 0, none⟩ = some (.slice (some ⟨ab, 0, none⟩) L.length cap) := by simp [World.cell?, h0]
  have f0 : w.frozen? ⟨nb, 0, none⟩ = false := by simp [World.frozen?, h0]
  have e0' : w.cell? ⟨ab, i * 3, none⟩ = some (.int .u8 g'.to) := by rw [Nat.mul_comm i 3]; exact e0
  have e1' : w.cell? ⟨ab, i * 3 + 1, none⟩ = some (.slice (some ⟨gb, 0, none⟩) g'.b.length gc) := by rw [Nat.mul_comm i 3]; exact e1
  have e2' : w.cell? ⟨ab, i * 3 + 2, none⟩ = some (.bool g'.bent) := by rw [Nat.mul_comm i 3]; exact e2
  have hl' : L.length < 4096 := by simpa using hl
  have hl1 : L.length ≤ 4096 := by omega
  have hx : Rd w (.slice (some ⟨gb, 0, none⟩) g'.b.length gc) 1 g'.b.length (bcells g'.b) := ownsRow_rd hgo
  have hx' : Rd w.drew (.slice (some ⟨gb, 0, none⟩) g'.b.length gc) 1 g'.b.length (bcells g'.b) := hx
  obtain ⟨i0, hi, hz0, hz1, hz2⟩ := info_parts info_gram
  have hnb : nb < w.heap.size := (Array.getElem?_eq_some_iff.1 h0).1
  have hne : ∀ k, (Value.slice (some ⟨ab, 0, none⟩) L.length cap).ownBlock = some k → nb ≠ k := by
    intro k hk e
    have := (List.nodup_cons.1 hnd).1
    exact this (by simp [hk, e])
  have H0 := hide h0; have H1 := hide h1; have H2 := hide h2; have HND := hide hnd; have HNE := hide hne; have HX := hide hx'
  clear h0 h1 h2 hnd hne hg hgo e0 e1 e2 hfz hg' hx hx'
  go_enter Try.func11, Try.ntmps11
  go_wp2_with (go_at_call 21; refine (net_at nb ab 0 L.length cap _ _ hl1 c0 (by omega) (by omega)).mono ?_; rintro e w' ⟨rfl, rfl⟩)
  go_region_law (first | (go_simp; go_at_call 20; refine (gram_clone g'.to g'.bent ⟨gb, 0, none⟩ g'.b.length gc (bcells g'.b) _ (by exact HX.out) (bcells_one g'.b) hgl).mono ?_; rintro e w1 ⟨gx, capx, rfl, hgx, hown, hb0⟩; have hb : Below w.heap.size w w1 := below_undrew hb0; clear hb0; have kn := (hb.cell (p := ⟨nb, 0, none⟩) hnb).trans c0; have ka : ∀ o, (w1.alloc o).cell? ⟨nb, 0, none⟩ = _ := fun o => ((hb.alloc hb.size o).cell (p := ⟨nb, 0, none⟩) hnb).trans c0) | (refine step_append_rd rfl (.tmp 23) (.tmp 28) 48 rfl 0 52 i0 _ 3 40 Try.underlying48 hi hz0 hz1 hz2 rfl (by decide) (.slice (some ⟨ab, 0, none⟩) L.length cap) L.length (gflat L) rfl (ownsRow_below H1.out (hb.alloc hb.size _) (Nat.le_refl _)) _ 1 [.int .u8 g'.to, .slice (some ⟨gx, 0, none⟩) g'.b.length capx, .bool g'.bent] rfl (rd_new _ _ _ 1 3 (by simp) (by simp)) (by simp [Value.oneCell']) (by unfold maxLen; omega) (by omega) (by simp) ?_; intro v' w2 hown2 hgrow hnil hv'; have hnb1 : nb < w1.heap.size := Nat.lt_of_lt_of_le hnb hb.size; have kn2 := ((grown_cell hgrow (b := nb) (o := 0) (by simp; omega) (HNE.out)).1.trans ((hb.alloc hb.size _).cell (p := ⟨nb, 0, none⟩) hnb)).trans c0; have fn2 := ((grown_cell hgrow (b := nb) (o := 0) (by simp; omega) (HNE.out)).2.trans ((hb.alloc hb.size _).frozen (p := ⟨nb, 0, none⟩) hnb)).trans f0; obtain ⟨g2, cap2, rfl, _⟩ := ownsRow_some hown2 (by simp [hnil])))
  all_goals
    have hc := sent_close (g := g') H0.out H1.out H2.out HND.out hb (gx := gx) rfl hgx hown hgne hgrow hown2 hv'
    have HC := hide hc; clear hc hown hgrow hown2 hv' hnil hb ka
    go_wp2
    go_ret
    exact ⟨rfl, HC.out⟩

end Go.Proofs.Ytipobpcafkhknaa
