/-
  The walk of StuffHoles.
-/
import Derived.Test.YthodfkebmcnhnaaDoorStH
namespace Go.Proofs.YthodfkebmcnhnaaDoor
open Go.RowKit
set_option linter.unusedVariables false
set_option linter.unusedSimpArgs false

/-- cut short -/
theorem holes_cut (b : List UInt8) {p : Nat} (hp : p < (bodyW b).length) : opened ((wrapW b).take p) = none := by
  have e : (wrapW b).take p = (bodyW b).take p := by unfold wrapW; rw [List.take_append_of_le_length (by omega)]
  have hz : NoZ ((bodyW b).take p) := fun c hc => bodyW_noZ b c (List.mem_of_mem_take hc)
  unfold opened
  rw [e, nul_noZ hz, if_pos (.inr rfl)]
/-- with a nought within -/
theorem holes_set (b : List UInt8) {p : Nat} (hp : p < (bodyW b).length) : nul ((wrapW b).set p 0) = (bodyW b).take p ∧ ∀ x, opened ((wrapW b).set p 0) = some x → x ≠ b := by
  have hz : NoZ ((bodyW b).take p) := fun c hc => bodyW_noZ b c (List.mem_of_mem_take hc)
  have e : (wrapW b).set p 0 = (bodyW b).take p ++ 0 :: (wrapW b).drop (p + 1) := by
    have hl := wrapW_length b
    rw [List.set_eq_take_append_cons_drop, if_pos (by omega)]
    congr 1
    unfold wrapW
    rw [List.take_append_of_le_length (by omega)]
  have hn : nul ((wrapW b).set p 0) = (bodyW b).take p := by rw [e, nul_app hz]
  refine ⟨hn, fun x hx hxb => ?_⟩
  subst hxb
  unfold opened at hx
  rw [hn] at hx
  split at hx
  · cases hx
  · rename_i hne
    have h1 : (bodyW x).take p ≠ [] := fun h => hne (.inl h)
    have h2 := body_open _ _ _ _ (Nat.le_refl _) h1 hz hx
    have h3 := congrArg List.length h2
    rw [List.length_take] at h3
    omega

set_option maxRecDepth 100000 in
set_option maxHeartbeats 6400000 in
theorem law_StuffHoles (W : World) (a0 : Option Addr) (c0 : Nat) (b0 : List UInt8) (hx0 : RdB W (.slice a0 b0.length c0) b0) (hc0 : b0.length ≤ c0) (hd0 : c0 ≤ 9223372036854775807) (hl0 : ∀ k, (Value.slice a0 b0.length c0).ownBlock = some k → k < W.heap.size)
    (n1 : Int) (lo1 : -9223372036854775808 ≤ n1) (hi1 : n1 ≤ 9223372036854775807) :
    Calls Tryd.prog 8 #[.slice a0 b0.length c0, .int .i64 n1] W fun e w' => e = .returned (.bool true) ∧ Below W.heap.size W w' := by
  have HL0 := hide hl0
  have HX0 := hide hx0
  clear hl0 hx0
  by_cases hbig0 : 2000 < b0.length
  · have i0 : (2000 : Int) < b0.length := by omega
    go_enter Tryd.func8, Tryd.ntmps8
    go_wp2_with (refine (st_known _).mono ?_; rintro e w' ⟨rfl, hb⟩; have HB := hide hb; clear hb)
    go_ret
    exact ⟨rfl, HB.out⟩
  have i0 : ¬ ((2000 : Int) < b0.length) := by omega
  go_enter Tryd.func8, Tryd.ntmps8
  go_wp2_with fail
  refine (st_known _).mono ?_
  rintro e w1 ⟨rfl, hb1⟩
  have HB1 := hide hb1
  have hs1 := hb1.size
  have R01 := hide (HX0.out.low hb1)
  clear hb1
  go_wp2_with fail
  refine (st_Wrap' b0 a0 c0 w1 R01.out hc0 hd0 (by omega) (fun k hk => by have := HL0.out k hk; omega)).mono ?_
  rintro e w2 ⟨ax, nx, cx, rfl, hnx, hx1, hx2, hox, hbx⟩
  have HNX := hide hnx
  have HB2 := hide (HB1.out.trans (hbx.mono hs1))
  have hs2 := hbx.size
  have lx : nx ≤ 2010 := by rw [HNX.out]; exact wrap_le (by omega)
  have hnx2 : 2 ≤ nx := by
    rw [HNX.out, wrapW_length]
    have := List.length_pos_iff.2 (body_ne b0)
    omega
  obtain ⟨g, cap, he, hge⟩ := ownsRow_some hox (by intro e; rcases hox.2 with ⟨_, h0⟩ | ⟨_, _, _, h0, _⟩ <;> simp [e] at * <;> omega)
  simp only [Value.slice.injEq, true_and] at he
  obtain ⟨rfl, rfl⟩ := he
  have HOX := hide hox
  have HB12 := hide hbx
  clear hnx hox hbx
  have i1 : ¬ ((nx : Int) < 2) := by omega
  obtain ⟨p, hp⟩ : ∃ p : Nat, (max n1 0).tmod ((nx : Int) - 1) = p := ⟨((max n1 0).tmod ((nx : Int) - 1)).toNat, by
    have := Int.tmod_nonneg ((nx : Int) - 1) (show 0 ≤ max n1 0 by omega)
    omega⟩
  have hpl : p < nx - 1 := by
    have := Int.tmod_lt_of_pos (max n1 0) (show (0 : Int) < (nx : Int) - 1 by omega)
    omega
  have hbl : p < (bodyW b0).length := by have := wrapW_length b0; have := HNX.out; omega
  have rd2 : RdB w2 (.slice (some ⟨g, 0, none⟩) nx cx) (wrapW b0) := by have := ownsRow_rd HOX.out; rw [HNX.out] at this ⊢; exact this
  have RD2 := hide (rd2.upto HNX.out p cx p (by have := HNX.out; simp; omega))
  have HP := hide hpl
  have HBL := hide hbl
  clear rd2 hbl
  go_wp2_with fail
  refine (st_Open' ((wrapW b0).take p) (some ⟨g, 0, none⟩) p cx w2 (by have := HNX.out; simp; omega) RD2.out (by omega) hx2 (by omega)).mono ?_
  rintro e w3 ⟨a3, n3, c3, rfl, ho3, hn3, hb3⟩
  obtain ⟨o1, o2, o3⟩ := opened_none (holes_cut b0 HBL.out)
  rw [o2, o3]
  have HO3 := hide (ownsRow_below HOX.out hb3 (Nat.le_refl _))
  have c3' := HO3.out.cellAt p (by omega)
  rw [show (bcells (wrapW b0))[p]? = some (.int .u8 ((wrapW b0)[p]'(by have := HNX.out; omega)).toNat) by rw [bcells, List.getElem?_map, List.getElem?_eq_getElem (by have := HNX.out; omega)]; rfl] at c3'
  generalize ((wrapW b0)[p]'(by have := HNX.out; omega)).toNat = y at c3'
  have f3' := HO3.out.frozenAt p
  have g3 : g < w3.heap.size := (HO3.out.lt g rfl).2
  have HB13 := hide (HB12.out.trans (hb3.mono hs2))
  have i2 : (p : Int) < nx := by omega
  clear ho3 hn3 hb3 o1 o2 o3 hp
  go_wp2_with fail
  have hst := (HO3.out.stored p (.int .u8 0)).1
  have hset : (bcells (wrapW b0)).set p (.int .u8 0) = bcells ((wrapW b0).set p 0) := by simp [bcells, List.map_set]
  have hrd : RdB (w3.setCell ⟨g, p, none⟩ (.int .u8 0)) (.slice (some ⟨g, 0, none⟩) nx cx) ((wrapW b0).set p 0) := by
    rw [hset] at hst
    have h1 := ownsRow_rd hst
    unfold RdB
    rw [List.length_set, ← HNX.out]
    exact h1
  have HB4 := hide (HB13.out.setCell (p := ⟨g, p, none⟩) hge (.int .u8 0))
  have hs4 : (w3.setCell ⟨g, p, none⟩ (.int .u8 0)).heap.size = w3.heap.size := by simp [World.setCell]
  have hs13 := HB13.out.size
  clear hst hset c3' f3'
  obtain ⟨w4, hw4⟩ : ∃ w4, w4 = w3.setCell ⟨g, p, none⟩ (.int .u8 0) := ⟨_, rfl⟩
  rw [← hw4] at hrd HB4 hs4 ⊢
  have HRD := hide hrd
  clear hw4 hrd
  refine (st_Open' ((wrapW b0).set p 0) (some ⟨g, 0, none⟩) nx cx w4 (by rw [List.length_set]; exact HNX.out) HRD.out (by omega) hx2 (by omega)).mono ?_
  rintro e w5 ⟨a5, n5, c5, rfl, ho5, hn5, hb5⟩
  have hB15 := HB4.out.trans (hb5.mono (by omega))
  have HB5 := hide (HB1.out.trans (hB15.mono hs1))
  have v2 := convert_rd b0 _ w5 (R01.out.low hB15)
  obtain ⟨hn, hne⟩ := holes_set b0 HBL.out
  cases hop : opened ((wrapW b0).set p 0) with
  | none =>
    obtain ⟨o1, o2, o3⟩ := opened_none hop
    rw [o2, o3]
    clear ho5 hn5 hb5 o1 o2 o3 hB15 hn hne hop v2
    go_wp2_with fail
    go_ret
    exact ⟨rfl, HB5.out⟩
  | some x =>
    obtain ⟨o1, o2, o3⟩ := opened_some hop
    have hx := hne x hop
    have h1 : oN ((wrapW b0).set p 0) = (p : Int) + 1 := by
      rw [o2, hn, List.length_take]
      have := HBL.out
      omega
    rw [o1] at ho5 hn5
    have r5 : RdB w5 (.slice a5 n5 c5) x := by subst hn5; exact ownsRow_rd ho5
    have v1 := convert_rd x _ w5 r5
    rw [h1, o3]
    have hbq : (x == b0) = false := by simpa using hx
    clear ho5 hn5 hb5 o1 o2 o3 hB15 hn hne hop r5 h1 hx
    go_wp2_with fail
    go_ret
    exact ⟨rfl, HB5.out⟩
end Go.Proofs.YthodfkebmcnhnaaDoor
