/-
  The walk of GaugeOrder.
-/
import Derived.Test.YtgolknkapcelpaaDoorGaG
namespace Go.Proofs.YtgolknkapcelpaaDoor
open Go.RowKit Go.Maps
set_option linter.unusedVariables false
set_option linter.unusedSimpArgs false

/-- how often a place stands in a list -/
def cnt (L : Bs) (i : Nat) : Nat := (L.filter fun y => decide (y.toNat = i)).length
def cntL (L : Bs) : List Nat := (List.range 11).map (cnt L)
theorem cnt_snoc (L : Bs) (y : UInt8) (i : Nat) : cnt (L ++ [y]) i = cnt L i + if y.toNat = i then 1 else 0 := by
  unfold cnt
  rw [List.filter_append, List.length_append]
  by_cases h : y.toNat = i <;> simp [h]
theorem cnt_le (L : Bs) (i : Nat) : cnt L i ≤ L.length := List.length_filter_le _ _
theorem cntL_len (L : Bs) : (cntL L).length = 11 := by simp [cntL]
theorem cntL_get (L : Bs) {i : Nat} (h : i < 11) : (cntL L).getD i 0 = cnt L i := by
  rw [List.getD_eq_getElem?_getD]
  simp [cntL, h]
theorem cntL_le (L : Bs) : ∀ m ∈ cntL L, m ≤ L.length := fun m hm => by
  unfold cntL at hm
  obtain ⟨i, _, rfl⟩ := List.mem_map.1 hm
  exact cnt_le L i
theorem cntL_rev (L : Bs) : cntL L.reverse = cntL L := by
  unfold cntL cnt
  apply List.map_congr_left
  intro i _
  rw [List.filter_reverse, List.length_reverse]
theorem cntL_add (L : Bs) (y : UInt8) : gaAdd (cntL L) (nmOf [] y.toNat) = cntL (L ++ [y]) := by
  unfold gaAdd
  rw [nmOf_nil]
  split
  · rename_i h
    split at h
    · cases h
    · rename_i hn
      unfold cntL
      apply List.map_congr_left
      intro i hi
      have := List.mem_range.1 hi
      rw [cnt_snoc, if_neg (by omega)]
      rfl
  · rename_i j h
    split at h
    · rename_i hy
      simp only [Option.some.injEq] at h
      subst h
      rw [cntL_get L hy]
      apply List.ext_getElem
      · simp [cntL]
      · intro i h1 h2
        have hi : i < 11 := by rw [cntL_len] at h2; exact h2
        rw [List.getElem_set]
        simp only [cntL, List.getElem_map, List.getElem_range]
        rw [cnt_snoc]
        by_cases e : y.toNat = i
        · rw [if_pos e, if_pos e, e]
        · rw [if_neg e, if_neg e]
          rfl
    · cases h
theorem take_snoc {L : Bs} {i : Nat} (h : i < L.length) : L.take (i + 1) = L.take i ++ [L[i]] := by
  rw [List.take_add_one, List.getElem?_eq_getElem h]
  rfl
theorem gaVal_name (L : Bs) {i : Nat} (h : i < 11) : gaVal (cntL L) (gaNames.getD i []) = cnt L i := by
  unfold gaVal
  rw [nmIdx_name i h]
  exact cntL_get L h
theorem NmRow.chg {w w' : World} {q : Nat} {F F' : List Nat} (h : NmRow w q) (hc : Chg F F' w w') (hn : q ∉ F) : NmRow w' q := (hc.block q h.lt hn).trans h
theorem fresh_not {w w' : World} {q : Nat} {F F' : List Nat} (hc : Chg F F' w w') (hn : q ∉ F) (hq : q < w.heap.size) : q ∉ F' := fun hm => by
  rcases hc.fresh q hm with h | h
  · exact hn h
  · omega

set_option maxRecDepth 100000 in
set_option maxHeartbeats 3200000 in
theorem law_GaugeOrder (W : World) (ht : Tab W) (x : Value) (b : Bs) (hx : RdB W x b) (hbl : b.length ≤ 9223372036854775807) :
    Calls Tryd.prog 5 #[x] W fun e w' => e = .returned (.bool true) ∧ Below W.heap.size W w' := by
  obtain ⟨xa, xc, rfl⟩ := hx.head
  have HT := hide ht
  have HX := hide hx
  clear ht hx
  by_cases big : 100 < b.length
  · have i1 : (100 : Int) < b.length := by omega
    go_enter Tryd.func5, Tryd.ntmps5
    go_wp2_with (refine (ga_known _ HT.out).mono ?_; rintro e w' ⟨rfl, hb⟩; have HB := hide hb; clear hb)
    go_ret
    exact ⟨rfl, HB.out⟩
  have i1 : ¬ ((100 : Int) < b.length) := by omega
  go_enter Tryd.func5, Tryd.ntmps5
  go_wp2_with fail
  refine (ga_known _ HT.out).mono ?_
  rintro e w1 ⟨rfl, hb1⟩
  have HB1 := hide hb1
  clear hb1
  go_wp2_with fail
  refine (ga_New w1).mono ?_
  rintro e w2 ⟨rfl, hg, hb2⟩
  obtain ⟨ga, hga⟩ : ∃ ga, ga = w1.heap.size := ⟨_, rfl⟩
  have GA : Hid (GOwn W w2 ga zeros [ga]) := hide ⟨by rw [hga]; exact hg, fun k hk => by simp only [List.mem_singleton] at hk; have := HB1.out.size; omega, HB1.out.trans (hb2.mono HB1.out.size)⟩
  rw [← hga]
  clear hg hb2 hga HB1
  go_wp2_with fail
  refine (ga_New w2).mono ?_
  rintro e w3 ⟨rfl, hg, hb3⟩
  obtain ⟨gb, hgb⟩ : ∃ gb, gb = w2.heap.size := ⟨_, rfl⟩
  have D3 : Hid (Duo W w3 ga zeros [ga] gb zeros [gb]) := hide ⟨GA.out.then hb3, ⟨by rw [hgb]; exact hg, fun k hk => by simp only [List.mem_singleton] at hk; have := GA.out.low.size; omega, GA.out.low.trans (hb3.mono GA.out.low.size)⟩, fun k hk hm => by
    simp only [List.mem_singleton] at hk hm
    have := GA.out.rep.lt ga (by simp)
    omega⟩
  rw [← hgb]
  clear hg hb3 hgb GA
  go_wp2
  go_loopw [5] (fun iv wr => ∃ (i : Nat) (F G : List Nat), iv = .int .i64 i ∧ i ≤ b.length ∧ Hid (Duo W wr ga (cntL (b.take i)) F gb (cntL (b.reverse.take i)) G)) (fun iv _ => match iv with | .int _ j => b.length - j.toNat | _ => 0)
  case atStart => exact ⟨0, [ga], [gb], rfl, Nat.zero_le _, hide D3.out⟩
  case round =>
    obtain ⟨i, F, G, rfl, hi, hD⟩ := hrel
    clear D3
    by_cases hin : i < b.length
    · have i0 : (i : Int) < b.length := by omega
      obtain ⟨xb, off, cc, he, hcell, hxb⟩ := HX.out.at hin
      simp only [Value.slice.injEq] at he
      obtain ⟨rfl, -, rfl⟩ := he
      obtain ⟨m, hm⟩ : ∃ m, m = b.length - 1 - i := ⟨_, rfl⟩
      have hmb : m < b.length := by omega
      have m0 : (m : Int) < b.length := by omega
      obtain ⟨xb2, off2, cc2, he2, hcell2, _⟩ := HX.out.at hmb
      simp only [Value.slice.injEq, Option.some.injEq, Addr.mk.injEq] at he2
      obtain ⟨⟨rfl, rfl, -⟩, -, -⟩ := he2
      obtain ⟨v, hv⟩ : ∃ v, v = b[i].toNat := ⟨_, rfl⟩
      obtain ⟨v2, hv2⟩ : ∃ v2, v2 = b[m].toNat := ⟨_, rfl⟩
      rw [← hv] at hcell
      rw [← hv2] at hcell2
      have hv256 : v < 256 := by rw [hv]; exact UInt8.toNat_lt _
      have hv2256 : v2 < 256 := by rw [hv2]; exact UInt8.toNat_lt _
      have hwi : IntKind.i64.wrap ((i : Int) + 1) = (i : Int) + 1 := wrapI (by omega) (by omega)
      have hw1 : IntKind.i64.wrap ((b.length : Int) - 1) = (b.length : Int) - 1 := wrapI (by omega) (by omega)
      have hw2 : IntKind.i64.wrap ((b.length : Int) - 1 - i) = (m : Int) := by rw [wrapI (by omega) (by omega)]; omega
      have hN1 : Hid (gaAdd (cntL (b.take i)) (nmOf [] v) = cntL (b.take (i + 1))) := hide (by rw [hv, cntL_add, take_snoc hin])
      have hN2 : Hid (gaAdd (cntL (b.reverse.take i)) (nmOf [] v2) = cntL (b.reverse.take (i + 1))) := hide (by
        have h1 : i < b.reverse.length := by rw [List.length_reverse]; exact hin
        have h2 : b.reverse[i] = b[m] := by
          rw [List.getElem_reverse]
          congr 1
          omega
        rw [hv2, ← h2, cntL_add, take_snoc h1])
      have hcl : Hid (∀ w', Below W.heap.size W w' → w'.cell? ⟨xb, off + i, none⟩ = some (.int .u8 v) ∧ w'.cell? ⟨xb, off + m, none⟩ = some (.int .u8 v2)) := hide fun w' h => ⟨(h.cell (p := ⟨xb, off + i, none⟩) hxb).trans hcell, (h.cell (p := ⟨xb, off + m, none⟩) hxb).trans hcell2⟩
      have hle1 : Hid (∀ n ∈ cntL (b.take i), n < 1000000) := hide fun n hn => by have := cntL_le _ n hn; rw [List.length_take] at this; omega
      have hle2 : Hid (∀ n ∈ cntL (b.reverse.take i), n < 1000000) := hide fun n hn => by have := cntL_le _ n hn; rw [List.length_take] at this; omega
      obtain ⟨A, hA⟩ : ∃ A, A = cntL (b.take i) := ⟨_, rfl⟩
      obtain ⟨B, hB⟩ : ∃ B, B = cntL (b.reverse.take i) := ⟨_, rfl⟩
      rw [← hA] at hN1 hle1 hD
      rw [← hB] at hN2 hle2 hD
      clear hv hv2 hm hcell hcell2 hA hB
      obtain ⟨f1, f2⟩ := hcl.out wr hD.out.a.low
      go_wp2_with fail
      refine (law_name [] v hv256 wr).mono ?_
      rintro e w6 ⟨rfl, hb6⟩
      have D6 := hide (hD.out.then hb6)
      clear hb6 hD f1 f2
      go_wp2_with fail
      refine (ga_Count ga A F (nmOf [] v) (nmOf_len (by decide) v) w6 D6.out.a.rep hle1.out (HT.out.low D6.out.a.low)).mono ?_
      rintro e w7 ⟨rfl, F7, hg7, hc7⟩
      have D7 := hide (D6.out.step hg7 hc7)
      rw [hN1.out] at D7
      clear hg7 hc7 D6
      obtain ⟨f1, f2⟩ := hcl.out w7 D7.out.a.low
      go_wp2_with fail
      refine (law_name [] v2 hv2256 w7).mono ?_
      rintro e w8 ⟨rfl, hb8⟩
      have D8 := hide (D7.out.then hb8)
      clear hb8 D7 f1 f2
      go_wp2_with fail
      refine (ga_Count gb B G (nmOf [] v2) (nmOf_len (by decide) v2) w8 D8.out.b.rep hle2.out (HT.out.low D8.out.a.low)).mono ?_
      rintro e w9 ⟨rfl, G9, hg9, hc9⟩
      have D9 := hide (D8.out.symm.step hg9 hc9).symm
      rw [hN2.out] at D9
      clear hg9 hc9 D8
      go_wp2
      exact ⟨⟨i + 1, F7, G9, by simp, hin, D9⟩, by show b.length - ((i : Int) + 1).toNat < b.length - ((i : Nat) : Int).toNat; omega⟩
    · have i0 : ¬ ((i : Int) < b.length) := by omega
      obtain ⟨C, hC⟩ : ∃ C, C = cntL b := ⟨_, rfl⟩
      have hD2 : Hid (Duo W wr ga C F gb C G) := hide (by
        have h1 := hD.out
        have e1 : b.take i = b := List.take_of_length_le (by omega)
        have e2 : b.reverse.take i = b.reverse := List.take_of_length_le (by rw [List.length_reverse]; omega)
        rw [e1, e2, cntL_rev, ← hC] at h1
        exact h1)
      have HC := hide hC
      clear hD hC hin hi
      go_wp2_with fail
      refine (ga_Names _ wr (HT.out.low hD2.out.a.low)).mono ?_
      rintro e w4 ⟨rfl, hw4⟩
      obtain ⟨q, hq⟩ : ∃ q, q = wr.heap.size := ⟨_, rfl⟩
      have hq4 : Hid (NmRow w4 q) := hide (by rw [hw4, hq]; exact heap_alloc_at wr _)
      have D4 : Hid (Duo W w4 ga C F gb C G) := hide (hD2.out.then (by rw [hw4]; exact below_alloc wr _))
      have hqF : Hid (q ∉ F ∧ q ∉ G) := hide ⟨fun hm => by have := hD2.out.a.rep.lt q hm; omega, fun hm => by have := hD2.out.b.rep.lt q hm; omega⟩
      rw [← hq]
      clear hw4 hq hD2
      go_wp2
      go_loopw [7, 8, 9, 10, 11, 12, 13, 14] (fun nv iv _ _ _ _ _ _ wr => ∃ (i n : Nat) (F G : List Nat), iv = .int .i64 i ∧ i ≤ 11 ∧ nv = .int .u64 n ∧ n ≤ 11000 ∧ Hid (Duo W wr ga C F gb C G ∧ NmRow wr q ∧ q ∉ F ∧ q ∉ G ∧ n = (C.take i).sum)) (fun _ iv _ _ _ _ _ _ _ => match iv with | .int _ j => 11 - j.toNat | _ => 0)
      case atStart => exact ⟨0, 0, F, G, rfl, Nat.zero_le _, rfl, by omega, hide ⟨D4.out, hq4.out, hqF.out.1, hqF.out.2, rfl⟩⟩
      case round =>
        obtain ⟨i, n, F, G, rfl, hi, rfl, hn, hr⟩ := hrel
        clear D4 hq4 hqF
        obtain ⟨hd, hnr, hqf, hqg, hsum⟩ := hr.out
        have HD := hide hd; have HNR := hide hnr; have HQF := hide hqf; have HQG := hide hqg; have HSUM := hide hsum
        clear hr hd hnr hqf hqg hsum
        by_cases hin : i < 11
        · have i0 : (i : Int) < 11 := by omega
          obtain ⟨nm, hnm⟩ : ∃ nm, nm = gaNames.getD i [] := ⟨_, rfl⟩
          have f1 := HNR.out.at hin
          rw [← hnm] at f1
          have hkl : nm.length ≤ maxLen := by
            have h1 := nmOf_len (s := []) (by decide) i
            unfold nmOf at h1
            rw [if_pos hin, ← hnm] at h1
            exact h1
          obtain ⟨cv, hcv⟩ : ∃ cv, cv = cnt b i := ⟨_, rfl⟩
          have hval : Hid (gaVal C nm = cv) := hide (by rw [HC.out, hnm, gaVal_name b hin, hcv])
          have hidx : Hid ((nmIdx nm).isSome = true) := hide (by rw [hnm, nmIdx_name i hin]; rfl)
          have hcle : cv ≤ 100 := by rw [hcv]; have := cnt_le b i; omega
          have hsum2 : Hid (n + cv = (C.take (i + 1)).sum) := hide (by
            have h1 : C[i]? = some cv := by
              have := getD_at (N := C) (i := i) (by rw [HC.out, cntL_len]; exact hin)
              rw [this, HC.out, cntL_get b hin, hcv]
            rw [sum_take_next h1, HSUM.out])
          have hsle : Hid ((C.take (i + 1)).sum ≤ 11000) := hide (by
            have h1 := sum_take_le C (i + 1)
            have h2 := sum_le (N := C) (B := 100) (fun m hm => by rw [HC.out] at hm; have := cntL_le b m hm; omega)
            have h3 : C.length = 11 := by rw [HC.out]; exact cntL_len b
            rw [h3] at h2
            omega)
          have HCV := hide hcv
          clear hnm hcv
          go_wp2_with fail
          refine (ga_Value ga C F nm hkl wr HD.out.a.rep (HT.out.low HD.out.a.low)).mono ?_
          rintro e w7 ⟨rfl, F7, hg7, hc7⟩
          have D7 := hide (HD.out.step hg7 hc7)
          have hqF7 := hide (fresh_not hc7 HQF.out HNR.out.lt)
          have NR7 := hide (HNR.out.chg hc7 HQF.out)
          rw [hval.out, hidx.out]
          clear hg7 hc7 HD f1 HNR HQF
          have f1 := NR7.out.at hin
          obtain ⟨nm2, hnm2⟩ : ∃ nm2, nm2 = gaNames.getD i [] := ⟨_, rfl⟩
          rw [← hnm2] at f1
          have hkl2 : nm2.length ≤ maxLen := by
            have h1 := nmOf_len (s := []) (by decide) i
            unfold nmOf at h1
            rw [if_pos hin, ← hnm2] at h1
            exact h1
          have hval2 : Hid (gaVal C nm2 = cv) := hide (by rw [HC.out, hnm2, gaVal_name b hin, HCV.out])
          have hidx2 : Hid ((nmIdx nm2).isSome = true) := hide (by rw [hnm2, nmIdx_name i hin]; rfl)
          clear hnm2
          go_wp2_with fail
          refine (ga_Value gb C G nm2 hkl2 w7 D7.out.b.rep (HT.out.low D7.out.a.low)).mono ?_
          rintro e w8 ⟨rfl, G8, hg8, hc8⟩
          have D8 := hide (D7.out.symm.step hg8 hc8).symm
          have hqG8 := hide (fresh_not hc8 HQG.out NR7.out.lt)
          have NR8 := hide (NR7.out.chg hc8 HQG.out)
          rw [hval2.out, hidx2.out]
          clear hg8 hc8 D7 f1 NR7 HQG
          go_wp2
          go_loopw [13, 14] (fun mv jv wr => ∃ (j m : Nat), jv = .int .i64 j ∧ j ≤ b.length ∧ mv = .int .u64 m ∧ m ≤ j ∧ Hid (m = cnt (b.take j) i) ∧ w8 = wr) (fun _ jv _ => match jv with | .int _ j => b.length - j.toNat | _ => 0)
          case atStart => exact ⟨0, 0, rfl, Nat.zero_le _, rfl, Nat.le_refl _, hide rfl, rfl⟩
          case round =>
            obtain ⟨j, m, rfl, hj, rfl, hmj, hm, rfl⟩ := hrel
            by_cases hjn : j < b.length
            · have j0 : (j : Int) < b.length := by omega
              obtain ⟨xb, off, cc, he, hcell, hxb⟩ := (HX.out.low D8.out.a.low).at hjn
              simp only [Value.slice.injEq] at he
              obtain ⟨rfl, -, rfl⟩ := he
              obtain ⟨v, hv⟩ : ∃ v, v = b[j].toNat := ⟨_, rfl⟩
              rw [← hv] at hcell
              have hv256 : v < 256 := by rw [hv]; exact UInt8.toNat_lt _
              have hwv : IntKind.i64.wrap (v : Int) = v := wrapI (by omega) (by omega)
              have hwj : IntKind.i64.wrap ((j : Int) + 1) = (j : Int) + 1 := wrapI (by omega) (by omega)
              have hwm : IntKind.u64.wrap ((m : Int) + 1) = (m : Int) + 1 := wrapU (by omega) (by omega)
              have hnx : Hid (cnt (b.take (j + 1)) i = m + if v = i then 1 else 0) := hide (by rw [take_snoc hjn, cnt_snoc, ← hm.out, hv])
              clear hv hm
              by_cases hvi : v = i
              · have e1 : ((v : Int) == (i : Int)) = true := by simp [hvi]
                have hnx2 : Hid (m + 1 = cnt (b.take (j + 1)) i) := hide (by rw [hnx.out, if_pos hvi])
                clear hnx hvi
                go_wp2
                exact ⟨⟨j + 1, m + 1, by simp, hjn, by simp, by omega, hnx2, by trivial⟩, by show b.length - ((j : Int) + 1).toNat < b.length - ((j : Nat) : Int).toNat; omega⟩
              · have e1 : ((v : Int) == (i : Int)) = false := by simpa using fun h : (v : Int) = i => hvi (by omega)
                have hnx2 : Hid (m = cnt (b.take (j + 1)) i) := hide (by rw [hnx.out, if_neg hvi]; rfl)
                clear hnx hvi
                go_wp2
                exact ⟨⟨j + 1, m, by simp, hjn, rfl, by omega, hnx2, by trivial⟩, by show b.length - ((j : Int) + 1).toNat < b.length - ((j : Nat) : Int).toNat; omega⟩
            · have j0 : ¬ ((j : Int) < b.length) := by omega
              obtain rfl : m = cv := by rw [hm.out, HCV.out, List.take_of_length_le (by omega)]
              have e1 : ((m : Int) == (m : Int)) = true := by simp
              have hwi : IntKind.i64.wrap ((i : Int) + 1) = (i : Int) + 1 := wrapI (by omega) (by omega)
              have hwn : IntKind.u64.wrap ((n : Int) + m) = (n : Int) + m := wrapU (by omega) (by omega)
              clear hm
              go_wp2
              exact ⟨⟨i + 1, n + m, F7, G8, by simp, hin, by simp, by rw [hsum2.out]; exact hsle.out, hide ⟨D8.out, NR8.out, hqF7.out, hqG8.out, hsum2.out⟩⟩, by show 11 - ((i : Int) + 1).toNat < 11 - ((i : Nat) : Int).toNat; omega⟩
        · have i0 : ¬ ((i : Int) < 11) := by omega
          have hend : Hid (C.sum = n) := hide (by rw [HSUM.out, List.take_of_length_le (by rw [HC.out, cntL_len]; omega)])
          have e1 : ((n : Int) == (n : Int)) = true := by simp
          go_wp2_with fail
          refine (ga_Total ga C F wr HD.out.a.rep).mono ?_
          rintro e w9 ⟨rfl, rfl⟩
          rw [hend.out]
          go_wp2
          go_ret
          exact ⟨by simp, HD.out.a.low⟩
end Go.Proofs.YtgolknkapcelpaaDoor
