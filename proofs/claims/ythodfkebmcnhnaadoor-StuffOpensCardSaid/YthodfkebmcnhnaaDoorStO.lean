/-
  The walk of StuffOpens.
-/
import Derived.Test.YthodfkebmcnhnaaDoorStN
namespace Go.Proofs.YthodfkebmcnhnaaDoor
open Go.RowKit
set_option linter.unusedVariables false
set_option linter.unusedSimpArgs false

set_option maxRecDepth 100000 in
set_option maxHeartbeats 800000 in
theorem law_StuffOpens (W : World) (a0 : Option Addr) (c0 : Nat) (b0 : List UInt8) (hx0 : RdB W (.slice a0 b0.length c0) b0) (hc0 : b0.length ≤ c0) (hd0 : c0 ≤ 9223372036854775807) (hl0 : ∀ k, (Value.slice a0 b0.length c0).ownBlock = some k → k < W.heap.size) :
    Calls Tryd.prog 5 #[.slice a0 b0.length c0] W fun e w' => e = .returned (.bool true) ∧ Below W.heap.size W w' := by
  obtain ⟨n0, hn0⟩ : ∃ n0, n0 = b0.length := ⟨_, rfl⟩
  rw [← hn0] at hx0 hc0 hl0 ⊢
  have HL0 := hide hl0
  have HX0 := hide hx0
  have HN := hide hn0
  clear hl0 hx0 hn0
  by_cases hbig0 : 2000 < n0
  · have i0 : (2000 : Int) < n0 := by omega
    go_enter Tryd.func5, Tryd.ntmps5
    go_wp2_with (refine (st_known _).mono ?_; rintro e w' ⟨rfl, hb⟩; have HB := hide hb; clear hb)
    go_ret
    exact ⟨rfl, HB.out⟩
  have i0 : ¬ ((2000 : Int) < n0) := by omega
  go_enter Tryd.func5, Tryd.ntmps5
  go_wp2_with fail
  refine (st_known _).mono ?_
  rintro e w1 ⟨rfl, hb1⟩
  have HB1 := hide hb1
  have hs1 := hb1.size
  have R01 := hide (HX0.out.low hb1)
  clear hb1
  go_upto_region 5 with (at_builtin; refine wpList_cloneN rfl _ _ 22 rfl 5 Tryd.underlying22 (by kernel_rfl) rfl _ b0 rfl (by exact R01.out) n0 HN.out (by omega) ?_; intro a2 c2 w2 ho2 hb2; have HO2 := hide ho2; have HB2 := hide (HB1.out.trans (hb2.mono hs1)); have R02 := hide (R01.out.low hb2); clear ho2 hb2)
  have r2 : RdB w2 (.slice a2 n0 c2) b0 := by unfold RdB; rw [← HN.out]; exact ownsRow_rd HO2.out
  have HR2 := hide r2
  have hcap := ownsRow_cap HO2.out
  have HLW : Hid (∀ k, (Value.slice a2 n0 c2).ownBlock = some k → k < w2.heap.size) := hide fun k hk => (HO2.out.lt k hk).2
  have hs2 := HB2.out.size
  clear r2
  go_wp2_with fail
  refine (st_Open' b0 a2 n0 c2 w2 HN.out HR2.out hcap.1 hcap.2 (by omega)).mono ?_
  rintro e w3 ⟨a3, n3, c3, rfl, ho3, hn3, hb3⟩
  have R3 := hide (show RdB w3 (.slice a3 n3 c3) (oB b0) by subst hn3; exact ownsRow_rd ho3)
  have HB3 := hide (HB2.out.trans (hb3.mono hs2))
  have HR3 := hide (HR2.out.low hb3)
  have R03 := hide (R02.out.low hb3)
  clear ho3 hn3 hb3
  have hwe : IntKind.i64.wrap (oE b0) = oE b0 := by unfold oE; split <;> rfl
  obtain ⟨E, hE⟩ : ∃ E, E = oE b0 := ⟨_, rfl⟩
  obtain ⟨M, hM⟩ : ∃ M, M = oN b0 := ⟨_, rfl⟩
  obtain ⟨X, hX⟩ : ∃ X, X = oB b0 := ⟨_, rfl⟩
  rw [← hE] at hwe ⊢
  rw [← hM]
  rw [← hX] at R3
  have HE := hide hE; have HM := hide hM; have HXX := hide hX
  clear hE hM hX
  have hs3 := HB3.out.size
  go_wp2_with fail
  refine (ref_Open b0 a0 n0 c0 w3 HN.out R03.out hc0 hd0 (by omega)).mono ?_
  rintro e w4 ⟨a4, n4, c4, rfl, ho4, hn4, hb4⟩
  rw [← HE.out, ← HM.out]
  rw [← HXX.out] at ho4 hn4
  have R4 := hide (show RdB w4 (.slice a4 n4 c4) X by subst hn4; exact ownsRow_rd ho4)
  have HB4 := hide (HB3.out.trans (hb4.mono hs3))
  have v1 := convert_rd _ _ _ (R3.out.low hb4)
  have v2 := convert_rd _ _ _ R4.out
  have v3 := convert_rd _ _ _ (HR3.out.low hb4)
  have v4 := convert_rd _ _ _ (R03.out.low hb4)
  clear ho4 hn4 hb4
  go_wp2
  go_ret
  exact ⟨rfl, HB4.out⟩
end Go.Proofs.YthodfkebmcnhnaaDoor
