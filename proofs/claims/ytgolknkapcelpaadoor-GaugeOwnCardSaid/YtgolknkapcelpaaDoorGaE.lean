/-
  The document's gauge counts; the laws' name, known.
-/
import Derived.Test.YtgolknkapcelpaaDoorGaD
namespace Go.Proofs.YtgolknkapcelpaaDoor
open Go.RowKit Go.Maps
set_option linter.unusedVariables false
set_option linter.unusedSimpArgs false

theorem nmAt_none {k : Bs} (h : nmIdx k = none) : nmAt k = -1 := by unfold nmAt; rw [h]
theorem nmAt_some {k : Bs} {i : Nat} (h : nmIdx k = some i) : nmAt k = i := by unfold nmAt; rw [h]

set_option maxRecDepth 100000 in
theorem rg_Count (rb : Nat) (N : List Nat) (k : Bs) (w : World) (h : RAt w rb N) (hl : N.length = 11) (hs : ∀ n ∈ N, n < 1000000) :
    Calls Tryd.prog 14 #[.pointer (some ⟨rb, 0, none⟩), .string ⟨k.toArray⟩] w fun e w' => e = .returned (.bool (nmIdx k).isSome) ∧ RAt w' rb (gaAdd N k) ∧ Chg [rb] [rb] w w' := by
  have HR := hide h
  have HS := hide hs
  have HL := hide hl
  clear h hs hl
  cases hi : nmIdx k with
  | none =>
    have e : gaAdd N k = N := by unfold gaAdd; rw [hi]
    have e2 := nmAt_none hi
    rw [e]
    clear e hi
    go_enter Tryd.func14, Tryd.ntmps14
    go_wp2_with (go_at_call 22; refine (rg_at k _).mono ?_; rintro e w' ⟨rfl, hb⟩; have HB := hide hb; clear hb; rw [e2]; clear e2)
    go_ret
    exact ⟨rfl, HR.out.low HB.out, Chg.of_below HB.out⟩
  | some i =>
    have hi11 := nmIdx_lt hi
    have e : gaAdd N k = N.set i (N.getD i 0 + 1) := by unfold gaAdd; rw [hi]
    have e2 := nmAt_some hi
    rw [e]
    have hil : i < N.length := by rw [HL.out]; exact hi11
    obtain ⟨n, hn⟩ : ∃ n, n = N.getD i 0 := ⟨_, rfl⟩
    have hget : Hid (N[i]? = some n) := hide (by rw [hn]; exact getD_at hil)
    have hsm : Hid (n < 1000000) := hide (HS.out n (by rw [hn]; exact getD_mem hil))
    rw [← hn]
    have i1 : (i : Int) < 11 := by omega
    have hwn : IntKind.u64.wrap ((n : Int) + 1) = (n : Int) + 1 := wrapU (by omega) (by have := hsm.out; omega)
    clear e hi hn
    go_enter Tryd.func14, Tryd.ntmps14
    go_wp2_with (go_at_call 22; refine (rg_at k _).mono ?_; rintro e w2 ⟨rfl, hb⟩; have HB := hide hb; have HR2 := hide (HR.out.low hb); clear hb; rw [e2]; clear e2)
    have hcl : Hid (∀ w', Below w2.heap.size w2 w' → w'.cell? ⟨rb, i, none⟩ = some (.int .u64 n) ∧ w'.frozen? ⟨rb, i, none⟩ = false) := hide fun w' h => ⟨(HR2.out.low h).facts.2.2 i n hget.out, (HR2.out.low h).facts.2.1 i⟩
    refine wp_region_three 10 20 (by kernel_rfl) (by kernel_rfl) rfl (by kernel_rfl) (fun D v w' => Below w2.heap.size w2 w') (fun _ => undef) (Below.refl _ _).drew ?_
    simp only [List.take_succ_cons, List.take_zero, List.drop_succ_cons, List.drop_zero]
    iterate 10 (refine Hav3.read (e := ?_) (fun v => by rfl) (fun D v w h => h) (fun D v w' hD hS => ?_) ?_; rotate_left; (obtain ⟨f1, f2⟩ := hcl.out w' hS; clear hS hD; first | (go_simp; done) | (go_simp; with_reducible rfl)); go_simp)
    refine Hav3.fin (fun v w3 hS => ?_)
    obtain ⟨f1, f2⟩ := hcl.out w3 hS
    have HS3 := hide hS
    clear hS
    go_wp2
    go_ret
    exact ⟨rfl, (HR2.out.low HS3.out).set i (n + 1), (Chg.of_below HB.out).trans ((Chg.of_below HS3.out).trans (Chg.ofSet _ _ _ _))⟩

set_option maxRecDepth 100000 in
theorem rg_Value (rb : Nat) (N : List Nat) (k : Bs) (w : World) (h : RAt w rb N) (hl : N.length = 11) :
    Calls Tryd.prog 16 #[.pointer (some ⟨rb, 0, none⟩), .string ⟨k.toArray⟩] w fun e w' => e = .returned (.tuple #[.int .u64 (gaVal N k), .bool (nmIdx k).isSome]) ∧ Below w.heap.size w w' := by
  have HR := hide h
  have HL := hide hl
  clear h hl
  cases hi : nmIdx k with
  | none =>
    have e : gaVal N k = 0 := by unfold gaVal; rw [hi]
    have e2 := nmAt_none hi
    rw [e]
    clear e hi
    go_enter Tryd.func16, Tryd.ntmps16
    go_wp2_with (go_at_call 22; refine (rg_at k _).mono ?_; rintro e w' ⟨rfl, hb⟩; have HB := hide hb; clear hb; rw [e2]; clear e2)
    go_ret2
    exact ⟨rfl, HB.out⟩
  | some i =>
    have hi11 := nmIdx_lt hi
    have e : gaVal N k = N.getD i 0 := by unfold gaVal; rw [hi]
    have e2 := nmAt_some hi
    rw [e]
    have hil : i < N.length := by rw [HL.out]; exact hi11
    obtain ⟨n, hn⟩ : ∃ n, n = N.getD i 0 := ⟨_, rfl⟩
    have hget : Hid (N[i]? = some n) := hide (by rw [hn]; exact getD_at hil)
    rw [← hn]
    have i1 : (i : Int) < 11 := by omega
    clear e hi hn
    go_enter Tryd.func16, Tryd.ntmps16
    go_wp2_with (go_at_call 22; refine (rg_at k _).mono ?_; rintro e w2 ⟨rfl, hb⟩; have HB := hide hb; have f1 := (HR.out.low hb).facts.2.2 i n hget.out; clear hb; rw [e2]; clear e2)
    go_ret2
    exact ⟨rfl, HB.out⟩

set_option maxRecDepth 100000 in
theorem rg_Total (rb : Nat) (N : List Nat) (w : World) (h : RAt w rb N) (hl : N.length = 11) (hs : ∀ n ∈ N, n ≤ 1000000) :
    Calls Tryd.prog 18 #[.pointer (some ⟨rb, 0, none⟩)] w fun e w' => e = .returned (.int .u64 N.sum) ∧ w = w' := by
  have hsum : N.sum ≤ 11000000 := by have := sum_le hs; rw [hl] at this; omega
  have HS := hide hsum
  have HL := hide hl
  have HC := hide h.facts.2.2
  clear h hsum hl hs
  go_enter Tryd.func18, Tryd.ntmps18
  go_wp2
  go_loopw [3, 4] (fun nv jv wr => ∃ (j n : Nat), nv = .int .u64 n ∧ jv = .int .i64 j ∧ j ≤ 11 ∧ Hid (n = (N.take j).sum) ∧ w = wr) (fun _ jv _ => match jv with | .int _ j => 11 - j.toNat | _ => 0)
  case atStart => exact ⟨0, 0, rfl, rfl, by omega, hide rfl, rfl⟩
  case round =>
    obtain ⟨j, n, rfl, rfl, hj, hn, rfl⟩ := hrel
    by_cases hjn : j < 11
    · have i0 : (j : Int) < 11 := by omega
      obtain ⟨m, hm⟩ : ∃ m, N[j]? = some m := ⟨_, getD_at (by rw [HL.out]; exact hjn)⟩
      have c1 := HC.out j m hm
      have hnx : Hid (n + m = (N.take (j + 1)).sum) := hide (by rw [sum_take_next hm, hn.out])
      have hwi : IntKind.i64.wrap ((j : Int) + 1) = (j : Int) + 1 := wrapI (by omega) (by omega)
      have hws : IntKind.u64.wrap ((n : Int) + m) = (n : Int) + m := wrapU (by omega) (by have := hnx.out; have := sum_take_le N (j + 1); have := HS.out; omega)
      clear hm hn
      go_wp2
      exact ⟨⟨j + 1, n + m, by simp, by simp, hjn, hnx, by trivial⟩, by show 11 - ((j : Int) + 1).toNat < 11 - ((j : Nat) : Int).toNat; omega⟩
    · obtain rfl : j = 11 := by omega
      have hend : Hid (n = N.sum) := hide (by rw [hn.out, ← HL.out, List.take_length])
      clear hn
      go_wp2
      go_ret
      exact ⟨by rw [hend.out]; rfl, rfl⟩

/-- the laws' name: one of those that there are, or a text -/
def nmOf (s : Bs) (k : Nat) : Bs := if k < 11 then gaNames.getD k [] else s
set_option maxRecDepth 100000 in
theorem law_name (s : Bs) (n : Nat) (hn256 : n < 256) (w : World) : Calls Tryd.prog 12 #[.string ⟨s.toArray⟩, .int .u8 (n : Int)] w fun e w' => e = .returned (.string ⟨(nmOf s n).toArray⟩) ∧ Below w.heap.size w w' := by
  have hwi : IntKind.i64.wrap (n : Int) = n := wrapI (by omega) (by omega)
  by_cases h : n < 11
  · have i0 : (n : Int) < 11 := by omega
    have e : nmOf s n = gaNames.getD n [] := by unfold nmOf; rw [if_pos h]
    rw [e]
    obtain ⟨nm, hnm⟩ : ∃ nm, nm = gaNames.getD n [] := ⟨_, rfl⟩
    rw [← hnm]
    have HNM := hide hnm
    clear e hnm
    go_enter Tryd.func12, Tryd.ntmps12
    go_wp2_with (go_at_call 11; refine (rg_Names _).mono ?_; rintro e W1 ⟨rfl, hW1⟩; have f1 := (show NmRow W1 w.heap.size by rw [hW1]; exact heap_alloc_at w _).at h; rw [← HNM.out] at f1; have hb := hide (show Below w.heap.size w W1 by rw [hW1]; exact below_alloc w _); clear hW1)
    go_ret
    exact ⟨rfl, hb.out⟩
  · have i0 : ¬ ((n : Int) < 11) := by omega
    have e : nmOf s n = s := by unfold nmOf; rw [if_neg h]
    rw [e]
    clear e
    go_enter Tryd.func12, Tryd.ntmps12
    go_wp2_with (go_at_call 11; refine (rg_Names _).mono ?_; rintro e W1 ⟨rfl, hW1⟩; have hb := hide (show Below w.heap.size w W1 by rw [hW1]; exact below_alloc w _); clear hW1)
    go_ret
    exact ⟨rfl, hb.out⟩

/-- a gauge of the call's own -/
structure GOwn (W w : World) (gb : Nat) (N F : List Nat) : Prop where
  rep : GRep w gb N F
  up : ∀ k ∈ F, W.heap.size ≤ k
  low : Below W.heap.size W w
theorem GOwn.step {W w w' : World} {gb : Nat} {N N' F F' : List Nat} (h : GOwn W w gb N F) (hr : GRep w' gb N' F') (hc : Chg F F' w w') : GOwn W w' gb N' F' := ⟨hr, hc.up h.low.size h.up, h.low.trans (hc.below h.low.size h.up)⟩
theorem GOwn.then {W w w' : World} {gb : Nat} {N F : List Nat} (h : GOwn W w gb N F) (hb : Below w.heap.size w w') : GOwn W w' gb N F := ⟨h.rep.low hb, h.up, h.low.trans (hb.mono h.low.size)⟩
theorem GOwn.other {W w w' : World} {gb : Nat} {N F G G' : List Nat} (h : GOwn W w gb N F) (hc : Chg G G' w w') (hG : ∀ k ∈ G, W.heap.size ≤ k) (hd : ∀ k ∈ F, k ∉ G) : GOwn W w' gb N F := ⟨h.rep.chg hc hd, h.up, h.low.trans (hc.below h.low.size hG)⟩

set_option maxRecDepth 100000 in
set_option maxHeartbeats 1600000 in
theorem ga_known (W : World) (ht : Tab W) : Calls Tryd.prog 6 #[] W fun e w' => e = .returned (.bool true) ∧ Below W.heap.size W w' := by
  have hk1 : ([115, 121, 110, 99] : Bs).length ≤ maxLen := by decide
  have hk2 : ([120] : Bs).length ≤ maxLen := by decide
  have HT := hide ht
  clear ht
  have hn1 : Hid (nmIdx [115, 121, 110, 99] = some 8) := hide (by decide)
  have hn2 : Hid (nmIdx [120] = none) := hide (by decide)
  go_enter Tryd.func6, Tryd.ntmps6
  go_wp2_with fail
  refine (ga_New W).mono ?_
  rintro e w1 ⟨rfl, hg, hb⟩
  obtain ⟨gb, hgb⟩ : ∃ gb, gb = W.heap.size := ⟨_, rfl⟩
  have G1 : Hid (GOwn W w1 gb (List.replicate 11 0) [W.heap.size]) := hide ⟨by rw [hgb]; exact hg, fun k hk => by simp only [List.mem_singleton] at hk; omega, hb⟩
  rw [← hgb]
  clear hg hb hgb
  go_wp2_with fail
  refine (ga_Count gb _ _ [115, 121, 110, 99] hk1 w1 G1.out.rep (by intro n hn; rw [List.eq_of_mem_replicate hn]; omega) (HT.out.low G1.out.low)).mono ?_
  rintro e w2 ⟨rfl, F2, hg2, hc2⟩
  have G2 := hide (G1.out.step hg2 hc2)
  rw [hn1.out]
  have e2 : gaAdd (List.replicate 11 0) [115, 121, 110, 99] = [0, 0, 0, 0, 0, 0, 0, 0, 1, 0, 0] := by unfold gaAdd; rw [hn1.out]; rfl
  rw [e2] at G2
  clear hg2 hc2 G1 e2
  go_wp2_with fail
  refine (ga_Count gb _ F2 [115, 121, 110, 99] hk1 w2 G2.out.rep (by decide) (HT.out.low G2.out.low)).mono ?_
  rintro e w3 ⟨rfl, F3, hg3, hc3⟩
  have G3 := hide (G2.out.step hg3 hc3)
  rw [hn1.out]
  have e3 : gaAdd [0, 0, 0, 0, 0, 0, 0, 0, 1, 0, 0] [115, 121, 110, 99] = [0, 0, 0, 0, 0, 0, 0, 0, 2, 0, 0] := by unfold gaAdd; rw [hn1.out]; rfl
  rw [e3] at G3
  clear hg3 hc3 G2 e3
  go_wp2_with fail
  refine (ga_Count gb _ F3 [120] hk2 w3 G3.out.rep (by decide) (HT.out.low G3.out.low)).mono ?_
  rintro e w4 ⟨rfl, F4, hg4, hc4⟩
  have G4 := hide (G3.out.step hg4 hc4)
  rw [hn2.out]
  have e4 : gaAdd [0, 0, 0, 0, 0, 0, 0, 0, 2, 0, 0] [120] = [0, 0, 0, 0, 0, 0, 0, 0, 2, 0, 0] := by unfold gaAdd; rw [hn2.out]
  rw [e4] at G4
  clear hg4 hc4 G3 e4
  go_wp2_with fail
  refine (ga_Value gb _ F4 [115, 121, 110, 99] hk1 w4 G4.out.rep (HT.out.low G4.out.low)).mono ?_
  rintro e w5 ⟨rfl, F5, hg5, hc5⟩
  have G5 := hide (G4.out.step hg5 hc5)
  have e5 : gaVal [0, 0, 0, 0, 0, 0, 0, 0, 2, 0, 0] [115, 121, 110, 99] = 2 := by unfold gaVal; rw [hn1.out]; rfl
  rw [hn1.out, e5]
  clear hg5 hc5 G4 e5
  go_wp2_with (first
    | (go_at_call 17; refine (ga_Total gb _ F5 w5 G5.out.rep).mono ?_; rintro e w6 ⟨rfl, rfl⟩; rw [show ([0, 0, 0, 0, 0, 0, 0, 0, 2, 0, 0] : List Nat).sum = 2 from rfl])
    | (go_at_call 10; refine (ga_Names _ w5 (HT.out.low G5.out.low)).mono ?_; rintro e w7 ⟨rfl, hw7⟩; have HB := hide (G5.out.low.trans ((show Below w5.heap.size w5 w7 by rw [hw7]; exact below_alloc _ _).mono G5.out.low.size)); clear hw7))
  go_ret
  exact ⟨rfl, HB.out⟩
end Go.Proofs.YtgolknkapcelpaaDoor
