/-
  Two gauges beside one another; counting, as plain data; the walk of GaugeOwn.
-/
import Derived.Test.YtgolknkapcelpaaDoorGaE
namespace Go.Proofs.YtgolknkapcelpaaDoor
open Go.RowKit Go.Maps
set_option linter.unusedVariables false
set_option linter.unusedSimpArgs false

/-- two gauges of the call's own -/
structure Duo (W w : World) (p : Nat) (N F : List Nat) (q : Nat) (M G : List Nat) : Prop where
  a : GOwn W w p N F
  b : GOwn W w q M G
  far : ∀ k ∈ F, k ∉ G
theorem Duo.symm {W w : World} {p q : Nat} {N F M G : List Nat} (h : Duo W w p N F q M G) : Duo W w q M G p N F := ⟨h.b, h.a, fun k hk hm => h.far k hm hk⟩
theorem Duo.step {W w w' : World} {p q : Nat} {N N' F F' M G : List Nat} (h : Duo W w p N F q M G) (hr : GRep w' p N' F') (hc : Chg F F' w w') : Duo W w' p N' F' q M G := by
  refine ⟨h.a.step hr hc, h.b.other hc h.a.up fun k hk hm => h.far k hm hk, fun k hk hm => ?_⟩
  rcases hc.fresh k hk with h3 | h3
  · exact h.far k h3 hm
  · have := h.b.rep.lt k hm
    omega
theorem Duo.then {W w w' : World} {p q : Nat} {N F M G : List Nat} (h : Duo W w p N F q M G) (hb : Below w.heap.size w w') : Duo W w' p N F q M G := ⟨h.a.then hb, h.b.then hb, h.far⟩
/-- .. while something else is written -/
theorem Duo.beside {W w w' : World} {p q r : Nat} {N F M G : List Nat} (h : Duo W w p N F q M G) (hc : Chg [r] [r] w w') (hr : W.heap.size ≤ r) (hF : r ∉ F) (hG : r ∉ G) : Duo W w' p N F q M G :=
  ⟨h.a.other hc (by simpa using hr) (fun k hk hm => by simp only [List.mem_singleton] at hm; rw [hm] at hk; exact hF hk), h.b.other hc (by simpa using hr) (fun k hk hm => by simp only [List.mem_singleton] at hm; rw [hm] at hk; exact hG hk), h.far⟩

def zeros : List Nat := List.replicate 11 0
set_option maxRecDepth 100000 in
theorem nmIdx_name : ∀ k, k < 11 → nmIdx (gaNames.getD k []) = some k := by decide
theorem zeros_getD (m : Nat) : zeros.getD m 0 = 0 := by
  unfold zeros
  rw [List.getD_eq_getElem?_getD, List.getElem?_replicate]
  split <;> rfl
theorem nmIdx_empty : nmIdx [] = none := by decide
theorem nmOf_nil (k : Nat) : nmIdx (nmOf [] k) = if k < 11 then some k else none := by
  unfold nmOf
  split
  · rename_i h; exact nmIdx_name k h
  · exact nmIdx_empty
theorem nmOf_len {s : Bs} (h : s.length ≤ maxLen) (k : Nat) : (nmOf s k).length ≤ maxLen := by
  unfold nmOf
  split
  · have hall : gaNames.all (fun b => decide (b.length ≤ 20)) = true := by decide
    have hm : gaNames.getD k [] ∈ gaNames := by
      rw [List.getD_eq_getElem?_getD, List.getElem?_eq_getElem (by simpa [gaNames] using ‹k < 11›)]
      exact List.getElem_mem _
    have := List.all_eq_true.1 hall _ hm
    simp only [decide_eq_true_eq] at this
    unfold maxLen
    omega
  · exact h
theorem gaAdd_len (N : List Nat) (k : Bs) : (gaAdd N k).length = N.length := by
  unfold gaAdd
  split
  · rfl
  · exact List.length_set
theorem gaAdd_le {N : List Nat} {B : Nat} (h : ∀ n ∈ N, n ≤ B) (k : Bs) : ∀ n ∈ gaAdd N k, n ≤ B + 1 := by
  intro n hn
  unfold gaAdd at hn
  split at hn
  · exact Nat.le_succ_of_le (h n hn)
  · rename_i i _
    rcases List.mem_or_eq_of_mem_set hn with hn | rfl
    · exact Nat.le_succ_of_le (h n hn)
    · by_cases hi : i < N.length
      · have := h _ (getD_mem hi)
        omega
      · rw [List.getD_eq_getElem?_getD, List.getElem?_eq_none (by omega)]
        simp
theorem sum_set : ∀ (N : List Nat) (i : Nat), i < N.length → (N.set i (N.getD i 0 + 1)).sum = N.sum + 1
  | [], i, h => by simp at h
  | n :: N, 0, _ => by simp; omega
  | n :: N, i + 1, h => by
    have := sum_set N i (by simpa using h)
    simp only [List.set_cons_succ, List.sum_cons, List.getD_cons_succ] at this ⊢
    omega
theorem gaAdd_sum {N : List Nat} (hl : N.length = 11) (k : Bs) : (gaAdd N k).sum = N.sum + (if (nmIdx k).isSome then 1 else 0) := by
  unfold gaAdd
  cases h : nmIdx k with
  | none => simp
  | some i => simpa using sum_set N i (by rw [hl]; exact nmIdx_lt h)

set_option maxRecDepth 100000 in
set_option maxHeartbeats 3200000 in
theorem law_GaugeOwn (W : World) (ht : Tab W) (x : Value) (b : Bs) (hx : RdB W x b) (hbl : b.length ≤ 9223372036854775807) (y : UInt8) :
    Calls Tryd.prog 4 #[x, .int .u8 (y.toNat : Int)] W fun e w' => e = .returned (.bool true) ∧ Below W.heap.size W w' := by
  obtain ⟨xa, xc, rfl⟩ := hx.head
  have HT := hide ht
  have HX := hide hx
  clear ht hx
  by_cases big : 100 < b.length
  · have i1 : (100 : Int) < b.length := by omega
    go_enter Tryd.func4, Tryd.ntmps4
    go_wp2_with (refine (ga_known _ HT.out).mono ?_; rintro e w' ⟨rfl, hb⟩; have HB := hide hb; clear hb)
    go_ret
    exact ⟨rfl, HB.out⟩
  have i1 : ¬ ((100 : Int) < b.length) := by omega
  go_enter Tryd.func4, Tryd.ntmps4
  go_wp2_with fail
  refine (ga_known _ HT.out).mono ?_
  rintro e w1 ⟨rfl, hb1⟩
  have HB1 := hide hb1
  clear hb1
  go_wp2_with fail
  refine (ga_New w1).mono ?_
  rintro e w2 ⟨rfl, hg, hb2⟩
  obtain ⟨ga, hga⟩ : ∃ ga, ga = w1.heap.size := ⟨_, rfl⟩
  have GA : Hid (GOwn W w2 ga zeros [ga]) := hide ⟨by rw [hga]; exact hg, fun k hk => by simp only [List.mem_singleton] at hk; have := HB1.out.size; omega, HB1.out.trans (hb2.mono HB1.out.size)⟩
  rw [← hga]
  clear hg hb2 hga HB1
  go_wp2_with fail
  refine (ga_New w2).mono ?_
  rintro e w3 ⟨rfl, hg, hb3⟩
  obtain ⟨gb, hgb⟩ : ∃ gb, gb = w2.heap.size := ⟨_, rfl⟩
  have D3 : Hid (Duo W w3 ga zeros [ga] gb zeros [gb]) := hide ⟨GA.out.then hb3, ⟨by rw [hgb]; exact hg, fun k hk => by simp only [List.mem_singleton] at hk; have := GA.out.low.size; omega, GA.out.low.trans (hb3.mono GA.out.low.size)⟩, fun k hk hm => by
    simp only [List.mem_singleton] at hk hm
    have := GA.out.rep.lt ga (by simp)
    omega⟩
  rw [← hgb]
  clear hg hb3 hgb GA
  go_wp2_with fail
  refine (ga_Names _ w3 (HT.out.low D3.out.a.low)).mono ?_
  rintro e w4 ⟨rfl, hw4⟩
  obtain ⟨q, hq⟩ : ∃ q, q = w3.heap.size := ⟨_, rfl⟩
  have hq4 : Hid (w4.heap[q]? = some (.cells (gaNames.map strV).toArray 9 (0, 0))) := hide (by rw [hw4, hq]; exact heap_alloc_at w3 _)
  have D4 : Hid (Duo W w4 ga zeros [ga] gb zeros [gb]) := hide (D3.out.then (by rw [hw4]; exact below_alloc w3 _))
  have hqW : Hid (W.heap.size ≤ q ∧ q ≠ ga ∧ q ≠ gb) := hide ⟨by rw [hq]; exact D3.out.a.low.size, fun e => by have := D3.out.a.rep.lt ga (by simp); omega, fun e => by have := D3.out.b.rep.lt gb (by simp); omega⟩
  rw [← hq]
  clear hw4 hq D3
  go_wp2
  go_loopw [8] (fun iv wr => ∃ (i : Nat), iv = .int .i64 i ∧ i ≤ 11 ∧ Hid (Duo W wr ga zeros [ga] gb zeros [gb]) ∧ Hid (∃ cs : Array Value, wr.heap[q]? = some (.cells cs 9 (0, 0)) ∧ cs.size = 11)) (fun iv _ => match iv with | .int _ j => 11 - j.toNat | _ => 0)
  case atStart => exact ⟨0, rfl, by omega, D4, hide ⟨_, hq4.out, rfl⟩⟩
  case round =>
    obtain ⟨i, rfl, hi, hD, hcs⟩ := hrel
    clear D4 hq4
    by_cases hin : i < 11
    · have i0 : (i : Int) < 11 := by omega
      obtain ⟨cs, hc1, hc2⟩ := hcs.out
      have hwi : IntKind.i64.wrap ((i : Int) + 1) = (i : Int) + 1 := wrapI (by omega) (by omega)
      have f1 : wr.cell? ⟨q, i, none⟩ = some (cs[i]'(by omega)) := by simp [World.cell?, hc1, hc2, hin]
      have f2 : wr.frozen? ⟨q, i, none⟩ = false := by simp [World.frozen?, hc1]
      have hC := hide (Chg.ofSet wr q i (.string ⟨([] : Bs).toArray⟩))
      have hD2 := hide (hD.out.beside hC.out hqW.out.1 (by simpa using hqW.out.2.1) (by simpa using hqW.out.2.2))
      have hcs2 : Hid (∃ cs : Array Value, (wr.setCell ⟨q, i, none⟩ (.string ⟨([] : Bs).toArray⟩)).heap[q]? = some (.cells cs 9 (0, 0)) ∧ cs.size = 11) := hide ⟨_, setCell_heap hc1 i _, by simpa using hc2⟩
      clear hD hcs hc1
      go_wp2
      exact ⟨⟨i + 1, by simp, hin, hD2, hcs2⟩, by show 11 - ((i : Int) + 1).toNat < 11 - ((i : Nat) : Int).toNat; omega⟩
    · have i0 : ¬ ((i : Int) < 11) := by omega
      clear hcs hin hi
      go_wp2
      go_loopw [9, 10] (fun nv iv wr => ∃ (i n : Nat) (N F : List Nat), iv = .int .i64 i ∧ i ≤ b.length ∧ nv = .int .u64 n ∧ n ≤ i ∧ Hid (Duo W wr ga N F gb zeros [gb] ∧ N.length = 11 ∧ N.sum = n ∧ ∀ m ∈ N, m ≤ i)) (fun _ iv _ => match iv with | .int _ j => b.length - j.toNat | _ => 0)
      case atStart => exact ⟨0, 0, zeros, [ga], rfl, Nat.zero_le _, rfl, Nat.le_refl _, hide ⟨hD.out, rfl, rfl, fun m hm => by rw [List.eq_of_mem_replicate hm]; exact Nat.le_refl _⟩⟩
      case round =>
        obtain ⟨i, n, N, F, rfl, hi, rfl, hni, hr⟩ := hrel
        clear hD
        by_cases hin : i < b.length
        · have i0 : (i : Int) < b.length := by omega
          obtain ⟨xb, off, cc, he, hcell, hxb⟩ := (HX.out.low hr.out.1.a.low).at hin
          simp only [Value.slice.injEq] at he
          obtain ⟨rfl, -, rfl⟩ := he
          obtain ⟨v, hv⟩ : ∃ v, v = b[i].toNat := ⟨_, rfl⟩
          rw [← hv] at hcell
          have hv256 : v < 256 := by rw [hv]; exact UInt8.toNat_lt _
          have hwi : IntKind.i64.wrap ((i : Int) + 1) = (i : Int) + 1 := wrapI (by omega) (by omega)
          have hwn : IntKind.u64.wrap ((n : Int) + 1) = (n : Int) + 1 := wrapU (by omega) (by omega)
          clear hv
          obtain ⟨hd, hlN, hsN, hbN⟩ := hr.out
          have HD := hide hd; have HLN := hide hlN; have HSN := hide hsN; have HBN := hide hbN
          clear hr hd hlN hsN hbN
          go_wp2_with fail
          refine (law_name [] v hv256 wr).mono ?_
          rintro e w6 ⟨rfl, hb6⟩
          have D6 := hide (HD.out.then hb6)
          clear hb6 HD hcell
          go_wp2_with fail
          refine (ga_Count ga N F (nmOf [] v) (nmOf_len (by decide) v) w6 D6.out.a.rep (fun m hm => by have := HBN.out m hm; omega) (HT.out.low D6.out.a.low)).mono ?_
          rintro e w7 ⟨rfl, F7, hg7, hc7⟩
          have D7 := hide (D6.out.step hg7 hc7)
          have hbN2 := hide (gaAdd_le HBN.out (nmOf [] v))
          have hlN2 : Hid ((gaAdd N (nmOf [] v)).length = 11) := hide (by rw [gaAdd_len]; exact HLN.out)
          have hsum := gaAdd_sum HLN.out (nmOf [] v)
          rw [nmOf_nil] at hsum ⊢
          clear hg7 hc7 D6
          by_cases h11 : v < 11
          · rw [if_pos h11] at hsum ⊢
            have HSM : Hid ((gaAdd N (nmOf [] v)).sum = n + 1) := hide (by rw [hsum, HSN.out]; rfl)
            clear hsum
            go_wp2
            exact ⟨⟨i + 1, n + 1, _, F7, by simp, hin, by simp, by omega, hide ⟨D7.out, hlN2.out, HSM.out, hbN2.out⟩⟩, by show b.length - ((i : Int) + 1).toNat < b.length - ((i : Nat) : Int).toNat; omega⟩
          · rw [if_neg h11] at hsum ⊢
            have HSM : Hid ((gaAdd N (nmOf [] v)).sum = n) := hide (by rw [hsum, HSN.out]; rfl)
            clear hsum
            go_wp2
            exact ⟨⟨i + 1, n, _, F7, by simp, hin, rfl, by omega, hide ⟨D7.out, hlN2.out, HSM.out, hbN2.out⟩⟩, by show b.length - ((i : Int) + 1).toNat < b.length - ((i : Nat) : Int).toNat; omega⟩
        · obtain rfl : i = b.length := by omega
          obtain ⟨hd, hlN, hsN, hbN⟩ := hr.out
          have HD := hide hd; have HLN := hide hlN; have HSN := hide hsN; have HBN := hide hbN
          obtain ⟨m, hm⟩ : ∃ m : Nat, (y.toNat : Int).tmod 11 = (m : Int) := ⟨((y.toNat : Int).tmod 11).toNat, by have := Int.tmod_nonneg (11 : Int) (show (0 : Int) ≤ (y.toNat : Int) by omega); omega⟩
          have hm11 : m < 11 := by have := Int.tmod_lt_of_pos (y.toNat : Int) (show (0 : Int) < 11 by omega); omega
          clear hr hd hlN hsN hbN
          have hkx : Hid (nmIdx (nmOf [] m) = some m) := hide (by rw [nmOf_nil, if_pos hm11])
          go_wp2_with fail
          refine (law_name [] m (by omega) wr).mono ?_
          rintro e w6 ⟨rfl, hb6⟩
          have D6 := hide (HD.out.then hb6)
          clear hb6 HD
          obtain ⟨kk, hkk⟩ : ∃ kk, kk = nmOf [] m := ⟨_, rfl⟩
          have hkl : kk.length ≤ maxLen := by rw [hkk]; exact nmOf_len (by decide) m
          rw [← hkk] at hkx ⊢
          clear hkk
          go_wp2_with fail
          refine (ga_Value gb zeros [gb] kk hkl w6 D6.out.b.rep (HT.out.low D6.out.a.low)).mono ?_
          rintro e w7 ⟨rfl, G7, hg7, hc7⟩
          have D7 := hide (D6.out.symm.step hg7 hc7)
          have e7 : gaVal zeros kk = 0 := by unfold gaVal; rw [hkx.out]; exact zeros_getD m
          rw [e7, hkx.out]
          clear hg7 hc7 D6 e7
          go_wp2_with fail
          refine (ga_Count gb zeros G7 kk hkl w7 D7.out.a.rep (fun n hn => by rw [List.eq_of_mem_replicate hn]; omega) (HT.out.low D7.out.a.low)).mono ?_
          rintro e w8 ⟨rfl, G8, hg8, hc8⟩
          have D8 := hide (D7.out.step hg8 hc8)
          have hs8 : Hid ((gaAdd zeros kk).sum = 1) := hide (by rw [gaAdd_sum rfl, hkx.out]; rfl)
          rw [hkx.out]
          clear hg8 hc8 D7
          go_wp2_with fail
          refine (ga_Total ga N F w8 D8.out.b.rep).mono ?_
          rintro e w9 ⟨rfl, rfl⟩
          rw [HSN.out]
          go_wp2_with fail
          refine (ga_Total gb _ G8 w8 D8.out.a.rep).mono ?_
          rintro e w9 ⟨rfl, rfl⟩
          rw [hs8.out]
          go_wp2
          go_ret
          exact ⟨by simp, D8.out.a.low⟩
end Go.Proofs.YtgolknkapcelpaaDoor
