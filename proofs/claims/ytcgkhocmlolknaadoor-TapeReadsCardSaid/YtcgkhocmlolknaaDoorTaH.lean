/-
  The walk of TapeReads.
-/
import Derived.Test.YtcgkhocmlolknaaDoorTaG
import Derived.Test.YtcgkhocmlolknaaDoorTaD
namespace Go.Proofs.YtcgkhocmlolknaaDoor
open Go.RowKit Go.Maps
set_option linter.unusedVariables false
set_option linter.unusedSimpArgs false

set_option maxRecDepth 100000 in
set_option maxHeartbeats 1600000 in
theorem law_TapeReads (W : World) (a0 : Option Addr) (c0 : Nat) (b0 : List UInt8) (hx0 : RdB W (.slice a0 b0.length c0) b0) (hc0 : b0.length ≤ c0) (hd0 : c0 ≤ 9223372036854775807) (hl0 : ∀ k, (Value.slice a0 b0.length c0).ownBlock = some k → k < W.heap.size) :
    Calls Tryd.prog 4 #[.slice a0 b0.length c0] W fun e w' => e = .returned (.bool true) ∧ Below W.heap.size W w' := by
  obtain ⟨n, hn⟩ : ∃ n, n = b0.length := ⟨_, rfl⟩
  rw [← hn] at hx0 hc0 hl0 ⊢
  have HN := hide hn; have HX := hide hx0; have HL := hide hl0
  clear hn hx0 hl0
  by_cases hbig : 4000 < n
  · have d1 : decide ((4000 : Int) < n) = true := decide_eq_true (by omega)
    go_enter Tryd.func4, Tryd.ntmps4
    go_wp2_with (refine (tp_known _).mono ?_; rintro e w' ⟨rfl, hb⟩; have HB := hide hb; clear hb)
    go_ret
    exact ⟨rfl, HB.out⟩
  · have d1 : decide ((4000 : Int) < n) = false := decide_eq_false (by omega)
    go_enter Tryd.func4, Tryd.ntmps4
    go_wp2_with fail
    refine (tp_known _).mono ?_
    rintro e w1 ⟨rfl, hb1⟩
    have HB1 := hide hb1
    clear hb1
    go_wp2_with fail
    refine (tp_Read b0 a0 n c0 w1 HN.out (HX.out.low HB1.out) hc0 hd0 (by omega) (fun k hk => Nat.lt_of_lt_of_le (HL.out k hk) HB1.out.size)).mono ?_
    rintro e w2 ⟨a2, c2, xs, rfl, hat2, hxs2, hb2⟩
    obtain ⟨m2, hm2⟩ : ∃ m, m = xs.length := ⟨_, rfl⟩
    rw [← hm2] at hat2 ⊢
    obtain ⟨nx, hnx⟩ : ∃ nx, nx = (tpRead b0).2 := ⟨_, rfl⟩
    rw [← hnx]
    have hxl : m2 ≤ 4000 := by
      have h1 := (tpRead_le b0.length b0 (Nat.le_refl _)).2.1
      rw [← hxs2, List.length_map] at h1
      have := HN.out
      omega
    have HM2 := hide hm2; have HAT2 := hide hat2; have HXS2 := hide hxs2; have HNX := hide hnx
    have HB2 := hide (HB1.out.trans (hb2.mono HB1.out.size))
    clear hm2 hat2 hxs2 hb2 hnx
    go_wp2_with fail
    refine (ref10_Read b0 a0 n c0 w2 HN.out (HX.out.low HB2.out) hc0 hd0 (by omega)).mono ?_
    rintro e w3 ⟨a3, c3, ys, rfl, hat3, hxs3, hb3⟩
    obtain ⟨m3, hm3⟩ : ∃ m, m = ys.length := ⟨_, rfl⟩
    rw [← hm3] at hat3 ⊢
    rw [← HNX.out]
    have hm23 : m3 = m2 := by
      have h1 := congrArg List.length hxs3
      have h2 := congrArg List.length HXS2.out
      rw [List.length_map] at h1 h2
      rw [hm3, HM2.out, h1, h2]
    subst hm23
    have HM3 := hide hm3; have HAT3 := hide hat3; have HXS3 := hide hxs3
    have HB3 := hide (HB2.out.trans (hb3.mono HB2.out.size))
    have HAT23 := hide (HAT2.out.low hb3)
    clear hm3 hat3 hxs3 hb3
    have e9 : ((nx : Int) == (nx : Int)) = true := by simp
    go_wp2_with fail
    refine (ref_SameNotes a2 a3 m3 c2 m3 c3 _ _ w3 HAT23.out.rd (by rw [List.length_map]; exact HM2.out) HAT3.out.rd (by rw [List.length_map]; exact HM3.out) (by omega) (by omega)).mono ?_
    rintro e w4 ⟨rfl, hb4⟩
    have hsame : decide (xs.map Prod.snd = ys.map Prod.snd) = true := decide_eq_true (by rw [HXS2.out, HXS3.out])
    rw [hsame]
    have HB4 := hide (HB3.out.trans (hb4.mono HB3.out.size))
    clear hb4 hsame
    go_wp2
    go_ret
    exact ⟨rfl, HB4.out⟩
end Go.Proofs.YtcgkhocmlolknaaDoor
