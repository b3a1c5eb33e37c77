/-
  The walk of StuffBack.
-/
import Derived.Test.YthodfkebmcnhnaaDoorStG
namespace Go.Proofs.YthodfkebmcnhnaaDoor
open Go.RowKit
set_option linter.unusedVariables false
set_option linter.unusedSimpArgs false

theorem wrap_at (b : List UInt8) {k : Nat} (hk : k < (wrapW b).length) : ((wrapW b)[k]).toNat = 0 ↔ k + 1 = (wrapW b).length := by
  have hl := wrapW_length b
  constructor
  · intro h
    have h0 : (wrapW b)[k] = 0 := UInt8.toNat.inj h
    rcases Nat.lt_or_ge k (bodyW b).length with h1 | h1
    · have : (wrapW b)[k] = (bodyW b)[k] := by unfold wrapW; exact List.getElem_append_left h1
      exact absurd (this.symm.trans h0) (bodyW_noZ b _ (List.getElem_mem h1))
    · omega
  · intro h
    have h1 : k = (bodyW b).length := by omega
    subst h1
    have h2 : (wrapW b)[(bodyW b).length]? = some 0 := by unfold wrapW; simp
    have this : (wrapW b)[(bodyW b).length]'hk = 0 := by
      rw [List.getElem?_eq_getElem hk] at h2
      exact Option.some.inj h2
    rw [this]
    rfl

set_option maxRecDepth 100000 in
set_option maxHeartbeats 6400000 in
theorem law_StuffBack (W : World) (a0 : Option Addr) (c0 : Nat) (b0 : List UInt8) (hx0 : RdB W (.slice a0 b0.length c0) b0) (hc0 : b0.length ≤ c0) (hd0 : c0 ≤ 9223372036854775807) (hl0 : ∀ k, (Value.slice a0 b0.length c0).ownBlock = some k → k < W.heap.size)
    (a1 : Option Addr) (c1 : Nat) (b1 : List UInt8) (hx1 : RdB W (.slice a1 b1.length c1) b1) (hc1 : b1.length ≤ c1) (hd1 : c1 ≤ 9223372036854775807) (hl1 : ∀ k, (Value.slice a1 b1.length c1).ownBlock = some k → k < W.heap.size) :
    Calls Tryd.prog 6 #[.slice a0 b0.length c0, .slice a1 b1.length c1] W fun e w' => e = .returned (.bool true) ∧ Below W.heap.size W w' := by
  have HL0 := hide hl0
  have HX0 := hide hx0; have HX1 := hide hx1
  clear hl0 hl1 hx0 hx1
  by_cases hbig0 : 2000 < b0.length
  · have i0 : (2000 : Int) < b0.length := by omega
    go_enter Tryd.func6, Tryd.ntmps6
    go_wp2_with (refine (st_known _).mono ?_; rintro e w' ⟨rfl, hb⟩; have HB := hide hb; clear hb)
    go_ret
    exact ⟨rfl, HB.out⟩
  by_cases hbig1 : 2000 < b1.length
  · have i0 : (2000 : Int) < b1.length := by omega
    have i1 : ¬ ((2000 : Int) < b0.length) := by omega
    go_enter Tryd.func6, Tryd.ntmps6
    go_wp2_with (refine (st_known _).mono ?_; rintro e w' ⟨rfl, hb⟩; have HB := hide hb; clear hb)
    go_ret
    exact ⟨rfl, HB.out⟩
  have i0 : ¬ ((2000 : Int) < b0.length) := by omega
  have i1 : ¬ ((2000 : Int) < b1.length) := by omega
  go_enter Tryd.func6, Tryd.ntmps6
  go_wp2_with fail
  refine (st_known _).mono ?_
  rintro e w1 ⟨rfl, hb1⟩
  have HB1 := hide hb1
  have hs1 := hb1.size
  have R01 := hide (HX0.out.low hb1)
  have R11 := hide (HX1.out.low hb1)
  clear hb1
  go_wp2_with fail
  refine (st_Wrap' b0 a0 c0 w1 R01.out hc0 hd0 (by omega) (fun k hk => by have := HL0.out k hk; omega)).mono ?_
  rintro e w2 ⟨ax, nx, cx, rfl, hnx, hx1, hx2, hox, hbx⟩
  have HNX := hide hnx
  have HB2 := hide (HB1.out.trans (hbx.mono hs1))
  have hs2 := hbx.size
  have R02 := hide (R01.out.low hbx)
  have R12 := hide (R11.out.low hbx)
  have lx : nx ≤ 2010 := by rw [HNX.out]; exact wrap_le (by omega)
  have hnx0 : 0 < nx := by rw [HNX.out, wrapW_length]; omega
  obtain ⟨g, cap, he, hge⟩ := ownsRow_some hox (by intro e; rcases hox.2 with ⟨_, h0⟩ | ⟨_, _, _, h0, _⟩ <;> simp [e] at * <;> omega)
  simp only [Value.slice.injEq, true_and] at he
  obtain ⟨rfl, rfl⟩ := he
  have HOX := hide hox
  have hll : nx ≤ b0.length + b0.length / 254 + 2 := by rw [HNX.out]; exact wrap_length b0
  have HLL := hide hll
  have HB12 := hide hbx
  clear hnx hox hbx hll
  go_wp2_with fail
  go_loopw [6] (fun iv wr => ∃ k : Nat, iv = .int .i64 k ∧ k ≤ nx ∧ Hid (wr = w2)) (fun iv _ => nx - (intOf iv).toNat)
  case atStart => exact ⟨0, rfl, by omega, hide rfl⟩
  case round =>
    obtain ⟨k, rfl, hk, hw⟩ := hrel
    have hw' := hw.out
    subst hw'
    by_cases hkx : k < nx
    · have hcell := HOX.out.cellAt k (by omega)
      have hkw : k < (wrapW b0).length := by rw [← HNX.out]; exact hkx
      rw [show (bcells (wrapW b0))[k]? = some (.int .u8 ((wrapW b0)[k]).toNat) by simp [bcells, hkw]] at hcell
      have hat := wrap_at b0 hkw
      rw [← HNX.out] at hat
      obtain ⟨y, hy⟩ : ∃ y, y = ((wrapW b0)[k]).toNat := ⟨_, rfl⟩
      rw [← hy] at hcell hat
      have i3 : (k : Int) < nx := by omega
      clear hy hkw
      by_cases hk1 : k + 1 = nx
      · obtain rfl : y = 0 := hat.2 hk1
        subst hk1
        clear hat
        go_wp2_with fail
        first
          | exact ⟨⟨k + 1, rfl, by omega, hide (by first | rfl | trivial)⟩, by simp [intOf] <;> omega⟩
          | exact ⟨k + 1, rfl, by omega, hide (by first | rfl | trivial)⟩
          | (refine ⟨⟨k + 1, rfl, by omega, hide (by first | rfl | trivial)⟩, ?_⟩; simp only [intOf]; omega)
      · have hy0 : y ≠ 0 := fun e => hk1 (hat.1 e)
        have j1 : ((y : Int) == 0) = false := by simpa using hy0
        have j2 : ((k : Int) == nx - 1) = false := by simp; omega
        clear hat
        go_wp2_with fail
        first
          | exact ⟨⟨k + 1, rfl, by omega, hide (by first | rfl | trivial)⟩, by simp [intOf] <;> omega⟩
          | exact ⟨k + 1, rfl, by omega, hide (by first | rfl | trivial)⟩
          | (refine ⟨⟨k + 1, rfl, by omega, hide (by first | rfl | trivial)⟩, ?_⟩; simp only [intOf]; omega)
    · have i3 : ¬ ((k : Int) < nx) := by omega
      have hrow : Hid (RowIn w1 w1.heap.size 5 (.slice (some ⟨g, 0, none⟩) nx cx) (wrapW b0) wr) := hide ⟨by
        have h : ∀ m, m = nx → wr.ownsRow w1.heap.size 5 1 (.slice (some ⟨g, 0, none⟩) nx cx) m (bcells (wrapW b0)) := fun m hm => hm ▸ HOX.out
        exact h _ HNX.out.symm, HB12.out, hs2⟩
      go_wp2_with (at_builtin; refine wpList_copy_own rfl _ _ 22 rfl w1 w1.heap.size 5 Tryd.underlying22 (by kernel_rfl) _ (wrapW b0) rfl (by exact hrow.out) _ b1 rfl (by exact R12.out) (by rw [← HNX.out]; omega) ?_; intro a5 co5 w5 hr5 hb5; obtain ⟨n5, hn5⟩ : ∃ n5, n5 = (wrapW b0 ++ b1).length := ⟨_, rfl⟩; rw [← hn5] at hr5 ⊢; have HR5 := hide hr5; have N5 := hide hn5; clear hr5 hb5 hn5)
      obtain ⟨hcap1, hcap2⟩ := ownsRow_cap (by have := HR5.out.1; rw [← N5.out] at this; exact this)
      have hn5 : n5 = nx + b1.length := by rw [N5.out, List.length_append, HNX.out]
      have rd5 : RdB w5 (.slice a5 n5 co5) (wrapW b0 ++ b1) := by have := ownsRow_rd HR5.out.1; rw [← N5.out] at this; unfold RdB; rw [← N5.out]; exact this
      have hl5 : n5 ≤ 5000 := by omega
      have RD5 := hide rd5
      have hB5 := HR5.out.2.1
      have hs5 := hB5.size
      clear rd5 hn5
      refine (st_Open_wrap b0 b1 _ rfl _ _ _ w5 N5.out RD5.out hcap1 hcap2 (by omega) nx HNX.out).mono ?_
      rintro e w6 ⟨a6, n6, c6, rfl, r6, hb6⟩
      have hB6 := hB5.trans (hb6.mono hs5)
      have v1 := convert_rd b0 _ w6 r6
      have v2 := convert_rd b0 _ w6 (R01.out.low hB6)
      have HB6 := hide (HB1.out.trans (hB6.mono hs1))
      have hll := HLL.out
      have k3 : (nx : Int) ≤ (b0.length : Int) + (b0.length : Int) / 254 + 2 := by omega
      have k4 : (b0.length : Int).tdiv 254 = (b0.length : Int) / 254 := Int.tdiv_eq_ediv_of_nonneg (by omega)
      have k5 : (0 : Int) ≤ (b0.length : Int) / 254 ∧ (b0.length : Int) / 254 ≤ 2000 := by omega
      clear r6 hb6 hB6 hB5 hll
      go_wp2_with fail
      go_ret
      exact ⟨rfl, HB6.out⟩
end Go.Proofs.YthodfkebmcnhnaaDoor
