/-
  The walk of the law CrcParts.
-/
import Derived.Test.YtiocakcanabjjaaCrcD
namespace Go.Proofs.Ytiocakcanabjjaa
open Go.RowKit
set_option linter.unusedVariables false
set_option linter.unusedSimpArgs false

/-- a Table beside others: blocks apart stay -/
theorem TabAt.chg {w w' : World} {tb : Nat} {d st made : Int} {T : List Value} {F F' : List Nat} (h : TabAt w tb d st made T) (hc : Chg F F' w w') (hn : tb ∉ F) : TabAt w' tb d st made T := h.same (hc.block _ h.heads.2.2.2.2 hn)
theorem Tab.chg {w w' : World} {tb : Nat} {f : Bool} {F F' : List Nat} (h : Tab w tb f) (hc : Chg F F' w w') (hn : tb ∉ F) : Tab w' tb f := TabAt.chg h hc hn

set_option maxRecDepth 100000 in
set_option maxHeartbeats 1600000 in
theorem law_CrcParts (W : World) (va : Value) (x : List UInt8) (ha : RdB W va x) (la : x.length ≤ 9223372036854775807) (vb : Value) (y : List UInt8) (hb : RdB W vb y) (lb : y.length ≤ 9223372036854775807) (vc : Value) (z : List UInt8) (hc : RdB W vc z) (lc : z.length ≤ 9223372036854775807) :
    Calls Try.prog 4 #[va, vb, vc] W fun e w' => e = .returned (.bool true) ∧ Below W.heap.size W w' := by
  obtain ⟨a1, c1, rfl⟩ := ha.head
  obtain ⟨a2, c2, rfl⟩ := hb.head
  obtain ⟨a3, c3, rfl⟩ := hc.head
  have HA := hide ha; have HB := hide hb; have HZ := hide hc
  clear ha hb hc
  by_cases h1 : 2000 < x.length
  · go_enter Try.func4, Try.ntmps4
    go_wp2_with (go_at_call 12; refine (crc_known _).mono ?_; rintro e w' ⟨rfl, hb1⟩; have HBw := hide hb1; clear hb1)
    go_ret
    exact ⟨rfl, HBw.out⟩
  by_cases h2 : 2000 < y.length
  · go_enter Try.func4, Try.ntmps4
    go_wp2_with (go_at_call 12; refine (crc_known _).mono ?_; rintro e w' ⟨rfl, hb1⟩; have HBw := hide hb1; clear hb1)
    go_ret
    exact ⟨rfl, HBw.out⟩
  by_cases h3 : 2000 < z.length
  · go_enter Try.func4, Try.ntmps4
    go_wp2_with (go_at_call 12; refine (crc_known _).mono ?_; rintro e w' ⟨rfl, hb1⟩; have HBw := hide hb1; clear hb1)
    go_ret
    exact ⟨rfl, HBw.out⟩
  go_enter Try.func4, Try.ntmps4
  go_wp2_with fail
  refine (crc_known _).mono ?_
  rintro e w1 ⟨rfl, hb1⟩
  have HB1 := hide hb1
  clear hb1
  go_wp2_with fail
  refine (crc_new_at w1).mono ?_
  rintro e w2 ⟨rfl, hT, hb2, hlt⟩
  have hcs := cs_new HB1.out hT hb2
  generalize w1.heap.size = tb at hcs hlt
  have HC := hide hcs
  clear hT hb2 hcs HB1 w1
  go_wp2_with fail
  refine (crc_new_at w2).mono ?_
  rintro e w3 ⟨rfl, hT, hb3, hlt3⟩
  have hU := cs_new HC.out.low hT hb3
  have hC3 := HC.out.to hb3
  have hne : tb ≠ w2.heap.size := by omega
  generalize w2.heap.size = ub at hU hlt3 hne hlt
  have HC3ge := hC3.ge
  have HC3 := hide hC3; have HU := hide hU
  clear hT hb3 hC3 hU HC w2
  go_wp2_with fail
  refine (crc_sum_one ub false _ z _ _ (HU.out.alloc _).tab (heap_alloc_eq _ (by simp)) (by omega) (fun w' hc => (HU.out.alloc _).rd hc HZ.out) (by omega)).mono ?_
  rintro e w4 ⟨rfl, hT4, hc4⟩
  have HU4 := hide ((HU.out.alloc _).sum hT4 hc4)
  have HT4 := hide ((HC3.out.alloc _).tab.chg hc4 (by simpa using hne))
  have hlt4 := HU4.out.lt
  clear hT4 hc4 HU
  have HA4 := hide (HU4.out.rd0 HA.out)
  go_wp2_with (at_builtin; refine wpList_clone_rd rfl (.tmp 34) (.tmp 35) 22 rfl 5 Try.underlying22 info_u8' rfl _ x rfl HA4.out (by omega) ?_)
  intro ao co w5 hown hb5
  have HU5 := hide (HU4.out.to hb5)
  have HT5 := hide (HT4.out.low hb5)
  have HO5 := hide hown
  have hs5 := hb5.size
  have HU4s := HU4.out.low.size
  clear hown hb5 HU4 HT4 HA4
  have HB5 := hide (HU5.out.rd0 HB.out)
  go_wp2_with (at_builtin; refine wpList_copy_rd rfl (.tmp 37) (.tmp 38) 22 rfl w4.heap.size 5 Try.underlying22 info_u8' _ x rfl HO5.out _ y rfl HB5.out (by omega) hs5 ?_)
  intro ao2 co2 w6 hown hgrow _
  have hge : ∀ k, (Value.slice ao x.length co).ownBlock = some k → w4.heap.size ≤ k := fun k hk => (HO5.out.lt k hk).1
  have hb6 : Below w4.heap.size w5 w6 := (Below.refl _ _).grown hgrow hs5 hge
  have hU6 : CS W ub true w6 := ⟨HU5.out.tab.same (hb6.block _ hlt4), HU5.out.low.trans (hb6.mono HU4s), HU5.out.ge⟩
  have hT6 : Tab w6 tb false := HT5.out.same (hb6.block _ (by omega))
  have HU6 := hide hU6; have HT6 := hide hT6; have HO6 := hide hown
  have hlt6 := hU6.lt
  clear hown hgrow hge hb6 hU6 hT6 HU5 HT5 HO5 HB5
  go_wp2_with fail
  refine (crc_sum_row tb false [_, _, _] [x, [], y] _ _ (HT6.out.alloc _) (heap_alloc_eq _ (by simp)) rfl (by simp) (by omega) (fun w' hc i v' l' h1 h2 => ?_) (by simp; omega) (by simp)).mono ?_
  · have hlow := (HU6.out.alloc _).low.trans (hc.below (HU6.out.alloc _).low.size (by simpa using HC3ge))
    match i with
    | 0 => simp at h1 h2; subst h1; subst h2; exact HA.out.low hlow
    | 1 => simp at h1 h2; subst h1; subst h2; exact RdB.nil _
    | 2 => simp at h1 h2; subst h1; subst h2; exact HB.out.low hlow
    | i + 3 => simp at h1
  rintro e w7 ⟨rfl, hT7, hc7⟩
  have hlow7 := (HU6.out.alloc _).low.trans (hc7.below (HU6.out.alloc _).low.size (by simpa using HC3ge))
  have hU7 : CS W ub true w7 := ⟨(HU6.out.alloc _).tab.chg hc7 (by simp; omega), hlow7, HU6.out.ge⟩
  have hO7 := ownsRow_same (ownsRow_below HO6.out (below_alloc _ _) (Nat.le_refl _)) fun k hk => hc7.block k ((ownsRow_below HO6.out (below_alloc _ _) (Nat.le_refl _)).lt k hk).2 (by have := (HO6.out.lt k hk).1; simp; omega)
  have HU7 := hide hU7; have HT7 := hide hT7; have HO7 := hide hO7
  have hlt7 := hU7.lt
  have hlt7' := hT7.lt
  clear hT7 hc7 hlow7 hU7 hO7 HU6 HT6 HO6
  go_wp2_with fail
  have hlen : (x ++ y).length = x.length + y.length := List.length_append
  refine (crc_sum_one ub true _ (x ++ y) _ _ (HU7.out.alloc _).tab (heap_alloc_eq _ (by simp)) (by omega) (fun w' hc => ?_) (by omega)).mono ?_
  · have hO8 := ownsRow_same (ownsRow_below HO7.out (below_alloc _ _) (Nat.le_refl _)) fun k hk => hc.block k ((ownsRow_below HO7.out (below_alloc _ _) (Nat.le_refl _)).lt k hk).2 (by have := (HO7.out.lt k hk).1; simp; omega)
    show Rd _ _ 1 (x ++ y).length _
    rw [hlen]
    exact ownsRow_rd hO8
  rintro e w8 ⟨rfl, hT8, hc8⟩
  have HU8 := hide ((HU7.out.alloc _).sum hT8 hc8)
  have HT8 := hide ((HT7.out.alloc _).chg hc8 (by simpa using hne))
  clear hT8 hc8 HU7 HT7 HO7 hlen
  simp only [List.flatten_cons, List.flatten_nil, List.append_nil, List.nil_append]
  go_wp2_with fail
  refine (crc_made_tab tb _ _ HT8.out).mono ?_
  rintro e w' ⟨rfl, rfl⟩
  simp only [if_true]
  go_wp2_with fail
  refine (crc_made_tab ub _ _ HU8.out.tab).mono ?_
  rintro e w' ⟨rfl, rfl⟩
  simp only [if_true]
  go_wp2
  go_ret
  exact ⟨by simp, HU8.out.low⟩
end Go.Proofs.Ytiocakcanabjjaa
