/-
  Walks over the reference of frames: Put, number, Encode.
-/
import Derived.Test.YtnnhgennmlkpmaaFrS
namespace Go.Proofs.Ytnnhgennmlkpmaa
open Go.RowKit
set_option linter.unusedVariables false
set_option linter.unusedSimpArgs false

/-- so many bytes of a number, the highest first -/
def beW (n : Nat) : Nat → List UInt8
  | 0 => []
  | k + 1 => UInt8.ofNat (n / 256 ^ k) :: beW n k
theorem beW_four (n : Nat) : beW n 4 = be4 n := by
  simp [beW, be4]
theorem beW_eight {n : Nat} (h : n < 18446744073709551616) : beW n 8 = be4 (n / 4294967296) ++ be4 (n % 4294967296) := by
  simp only [beW, be4, List.cons_append, List.nil_append]
  refine congr (congrArg List.cons ?_) (congr (congrArg List.cons ?_) (congr (congrArg List.cons ?_) (congr (congrArg List.cons ?_) (congr (congrArg List.cons ?_) (congr (congrArg List.cons ?_) (congr (congrArg List.cons ?_) (congr (congrArg List.cons ?_) rfl)))))))
  all_goals
    apply UInt8.toNat.inj
    simp only [UInt8.toNat_ofNat']
    try omega
theorem beW_length (n : Nat) : ∀ k, (beW n k).length = k
  | 0 => rfl
  | k + 1 => by rw [beW, List.length_cons, beW_length n k]

set_option maxRecDepth 100000 in
set_option maxHeartbeats 800000 in
theorem ref_put {W w : World} {B n width : Nat} {v : Value} {l : List UInt8} (h : RowIs W B v l w) (hn : n < 18446744073709551616) (hw : width ≤ 8) (hl : l.length ≤ 2000000) :
    Calls Try.prog 18 #[v, .int .u64 n, .int .i64 width] w fun e w' => ∃ a c, e = .returned (.slice a (l ++ beW n width).length c) ∧ RowIs W B (.slice a (l ++ beW n width).length c) (l ++ beW n width) w' := by
  obtain ⟨a0, c0, rfl⟩ := h.head
  have HR := hide h
  clear h
  obtain ⟨R, hR⟩ : ∃ R, R = l ++ beW n width := ⟨_, rfl⟩
  rw [← hR]
  have HRR := hide hR
  clear hR
  go_enter Try.func18, Try.ntmps18
  go_wp2
  go_loopw [0, 7] (fun v i wr => ∃ (i' : Int) (m : Nat) (L : List UInt8) (ao : Option Addr) (c' : Nat), i = .int .i64 i' ∧ -1 ≤ i' ∧ i' < 8 ∧ v = .slice ao m c' ∧ m ≤ 2000008 ∧ Hid (m = L.length) ∧ Hid (L ++ beW n (i' + 1).toNat = R) ∧ Hid (RowIs W B (.slice ao m c') L wr)) (fun _ i _ => (intOf i + 1).toNat)
  case atStart => exact ⟨_, _, l, _, _, rfl, by omega, by omega, rfl, by omega, rfl, by rw [show ((width : Int) - 1 + 1).toNat = width by omega]; exact hide HRR.out.symm, HR⟩
  case round =>
    obtain ⟨i, m, L, ao, c', rfl, hi1, hi2, rfl, hm, hmL, hL, hR⟩ := hrel
    by_cases hlt : 0 ≤ i
    · obtain ⟨k, rfl⟩ : ∃ k : Nat, i = (k : Int) := ⟨i.toNat, by omega⟩
      obtain ⟨y, hy⟩ : ∃ y : UInt8, y = UInt8.ofNat (n / 256 ^ k) := ⟨_, rfl⟩
      have hyn : ((n : Int) / 2 ^ (8 * k) % 256) = (y.toNat : Int) := by
        rw [hy, UInt8.toNat_ofNat']
        have e : (2 : Int) ^ (8 * k) = ((256 ^ k : Nat) : Int) := by rw [Int.pow_mul]; simp
        rw [e]
        rfl
      have hrf : RdB (wr.alloc (.cells #[.int .u8 ((n : Int) / 2 ^ (8 * k) % 256)] 5)) (.slice (some ⟨wr.heap.size, 0, none⟩) 1 1) [y] :=
        rdb_row (l := [y]) (e := 5) (fr := (0, 0)) (by rw [heap_alloc_at, hyn]; rfl) (by simp) 1
      have HRF := hide hrf
      have HR2 := hide (hR.out.to (below_alloc wr (.cells #[.int .u8 ((n : Int) / 2 ^ (8 * k) % 256)] 5)))
      have hL2 : Hid ((L ++ [y]) ++ beW n k = R) := hide (by
        have h := hL.out
        rw [show ((k : Int) + 1).toNat = k + 1 by omega, beW, ← hy] at h
        simpa using h)
      have hll : Hid ((L ++ [y]).length ≤ 2000008 ∧ (L ++ [y]).length = m + 1) := hide (by
        have h := congrArg List.length (hL2.out.trans HRR.out)
        have := hmL.out
        simp only [List.length_append, beW_length, List.length_cons, List.length_nil] at h
        have h5 : (L ++ [y]).length = m + 1 := by simp; omega
        omega)
      clear hrf hyn hy
      go_wp2_with (at_builtin; refine wpList_copy_own rfl (.tmp 14) (.tmp 21) 26 rfl W B 5 Try.underlying26 info_u8' (.slice ao m c') L rfl HR2.out _ [y] rfl HRF.out (by have := hmL.out; simp; omega) ?_)
      intro ao2 co2 w2 hR3 hb3
      have HR3 := hide hR3
      clear hR3 hb3
      have e1 : L.length + 1 = m + 1 := by rw [hmL.out]
      have HR3' : Hid (RowIn W B 5 (.slice ao2 (m + 1) co2) (L ++ [y]) w2) := by rw [← e1]; exact HR3
      rw [e1]
      clear HR3 e1
      have hm1 : m + 1 ≤ 2000008 := by have := hll.out; omega
      go_wp2
      go_roundw
      case rel => exact ⟨(k : Int) - 1, m + 1, L ++ [y], ao2, co2, rfl, by omega, by omega, rfl, hm1, hide hll.out.2.symm, by rw [show ((k : Int) - 1 + 1).toNat = k by omega]; exact hL2, HR3'⟩
      case measure => simp [intOf] <;> omega
    · have hi : i = -1 := by omega
      subst hi
      have hLl : L = R := by have h := hL.out; simp [beW] at h; exact h
      subst hLl
      go_wp2
      go_ret
      refine ⟨ao, c', ?_, ?_⟩
      · rw [← hmL.out]; rfl
      · rw [← hmL.out]; exact hR.out
/-- a row of the call's own, its length by a number of its own -/
def RowM (W : World) (B : Nat) (a : Option Addr) (m c : Nat) (l : List UInt8) (w : World) : Prop := m = l.length ∧ RowIs W B (.slice a m c) l w
theorem ref_put4 {W w : World} {B n m : Nat} {a : Option Addr} {c : Nat} {l : List UInt8} (h : RowM W B a m c l w) (m' : Nat) (hm' : m' = m + 4) (hn : n < 18446744073709551616) (hm : m ≤ 2000000) :
    Calls Try.prog 18 #[.slice a m c, .int .u64 n, .int .i64 4] w fun e w' => ∃ a' c', e = .returned (.slice a' m' c') ∧ RowM W B a' m' c' (l ++ be4 n) w' := by
  obtain ⟨h1, h2⟩ := h
  refine (ref_put (width := 4) h2 hn (by omega) (by omega)).mono ?_
  rintro e w' ⟨a', c', rfl, hr⟩
  rw [beW_four] at hr ⊢
  have e : m' = (l ++ be4 n).length := by rw [List.length_append, be4_length]; omega
  rw [← e] at hr ⊢
  exact ⟨a', c', rfl, e, hr⟩
theorem ref_put8 {W w : World} {B n m : Nat} {a : Option Addr} {c : Nat} {l : List UInt8} (h : RowM W B a m c l w) (m' : Nat) (hm' : m' = m + 8) (hn : n < 18446744073709551616) (hm : m ≤ 2000000) :
    Calls Try.prog 18 #[.slice a m c, .int .u64 n, .int .i64 8] w fun e w' => ∃ a' c', e = .returned (.slice a' m' c') ∧ RowM W B a' m' c' (l ++ be4 (n / 4294967296) ++ be4 (n % 4294967296)) w' := by
  obtain ⟨h1, h2⟩ := h
  refine (ref_put (width := 8) h2 hn (by omega) (by omega)).mono ?_
  rintro e w' ⟨a', c', rfl, hr⟩
  rw [beW_eight hn, ← List.append_assoc] at hr ⊢
  have e : m' = (l ++ be4 (n / 4294967296) ++ be4 (n % 4294967296)).length := by simp only [List.length_append, be4_length]; omega
  rw [← e] at hr ⊢
  exact ⟨a', c', rfl, e, hr⟩
theorem fullB_n {f : Fr} (h : fullB f = true) : 0 ≤ f.n ∧ f.n < 4294967296 := by
  unfold fullB soundB at h
  simp at h
  omega
theorem mayB_n {f : Fr} (h : mayB f = true) : 0 ≤ f.n ∧ f.n < 4294967296 ∧ f.b.length ≤ 4052 := by
  unfold mayB at h
  split at h
  · unfold noneB at h; simp at h; rw [h.1.1, h.1.2]; simp
  split at h
  · unfold noneB at h; simp at h; rw [h.1.1, h.1.2]; simp
  split at h
  · have := fullB_n (Bool.and_eq_true_iff.1 h).2
    unfold fullB at h; simp at h; omega
  split at h
  · have := fullB_n h
    unfold fullB at h; simp at h; omega
  · cases h

set_option maxRecDepth 100000 in
set_option maxHeartbeats 800000 in
theorem ref_encode_no (f : Fr) (a : Option Addr) (c : Nat) (w : World) (hf : f.Ok) (hl : f.b.length ≤ 1000000) (hx : RdB w (.slice a f.b.length c) f.b) (hm : mayB f = false) :
    Calls Try.prog 10 #[frV f (.slice a f.b.length c)] w fun e w' => e = .returned (.tuple #[.slice none 0 0, .int .i64 70]) ∧ Below w.heap.size w w' := by
  have hX := hide (hx.low (below_alloc w (.cells (frCells f (.slice a f.b.length c)) 30)))
  have hW0 := hide (below_alloc w (.cells (frCells f (.slice a f.b.length c)) 30))
  have hs0 : (w.alloc (.cells (frCells f (.slice a f.b.length c)) 30)).heap.size = w.heap.size + 1 := by simp
  have HM := hide hm; have HF := hide hf
  clear hx hm hf
  have hfV : frV f (.slice a f.b.length c) = .agg #[.int .u8 f.kind, .int .u32 f.epoch, .int .u32 f.series, .int .u32 f.chunk, .int .u32 f.bits, .int .u32 f.cnt, .int .u32 f.count, .bool f.closed, .int .u64 f.sum, .slice a f.b.length c, .int .i64 f.n] := rfl
  have HV := hide hfV
  rw [hfV]
  clear hfV
  go_enter Try.func10, Try.ntmps10
  go_wp2_with fail
  rw [← HV.out]
  refine (ref_may f a c _ HF.out hl hX.out).mono ?_
  rintro e w2 ⟨rfl, hb⟩
  rw [HM.out]
  have hW2 : Hid (Below w.heap.size w w2) := hide (hW0.out.trans (hb.mono (by omega)))
  clear hb
  go_wp2
  go_ret2
  exact ⟨rfl, hW2.out⟩

set_option maxRecDepth 100000 in
set_option maxHeartbeats 3200000 in
theorem ref_encode (f : Fr) (a : Option Addr) (c : Nat) (w : World) (hf : f.Ok) (hl : f.b.length ≤ 1000000) (hx : RdB w (.slice a f.b.length c) f.b) (hm : mayB f = true) :
    Calls Try.prog 10 #[frV f (.slice a f.b.length c)] w fun e w' => ∃ a m c, e = .returned (.tuple #[.slice a m c, .int .i64 0]) ∧ RdB w' (.slice a m c) (writeB f) ∧ Below w.heap.size w w' := by
  have hA := FrAt.made w f (.slice a f.b.length c)
  have hX := hide (hx.low (below_alloc w (.cells (frCells f (.slice a f.b.length c)) 30)))
  have hW0 := hide (below_alloc w (.cells (frCells f (.slice a f.b.length c)) 30))
  have hs0 : (w.alloc (.cells (frCells f (.slice a f.b.length c)) 30)).heap.size = w.heap.size + 1 := by simp
  have HM := hide hm; have HF := hide hf; have HA := hide hA
  obtain ⟨n0, n1, _⟩ := mayB_n hm
  obtain ⟨o1, o2, o3, o4, o5, o6, o7, o8, o9, o10⟩ := hf
  clear hx hm hA
  have hfV : frV f (.slice a f.b.length c) = .agg #[.int .u8 f.kind, .int .u32 f.epoch, .int .u32 f.series, .int .u32 f.chunk, .int .u32 f.bits, .int .u32 f.cnt, .int .u32 f.count, .bool f.closed, .int .u64 f.sum, .slice a f.b.length c, .int .i64 f.n] := rfl
  have HV := hide hfV
  rw [hfV]
  clear hfV
  go_enter Try.func10, Try.ntmps10
  go_wp2_with fail
  rw [← HV.out]
  refine (ref_may f a c _ HF.out hl hX.out).mono ?_
  rintro e w2 ⟨rfl, hb⟩
  rw [HM.out]
  have hW2 : Hid (Below w.heap.size w w2) := hide (hW0.out.trans (hb.mono (by omega)))
  have hA2 := HA.out.low hb
  have HA2 := hide hA2; have HX2 := hide (hX.out.low hb)
  obtain ⟨c0, c1, c2, c3, c4, c5, c6, c7, c8, c9, c10⟩ := hA2.cells
  have hsz : w.heap.size < w2.heap.size := hA2.lt
  clear hb hA2
  go_wp2_with fail
  have hr0 := rowIs_made w2 w2.heap.size [0x44, 0x59, UInt8.ofNat f.kind] #[.int .u8 68, .int .u8 89, .int .u8 f.kind] rfl (by
    simp only [bcells, List.map_cons, List.map_nil, UInt8.toNat_ofNat', List.toArray]
    rw [Nat.mod_eq_of_lt o1]; rfl) (by simp)
  have hR0 : RowM w2 w2.heap.size (some ⟨w2.heap.size, 0, none⟩) 3 3 [0x44, 0x59, UInt8.ofNat f.kind] (w2.alloc (.cells #[.int .u8 68, .int .u8 89, .int .u8 f.kind] 5)) := ⟨rfl, hr0⟩
  have HR0 := hide hR0
  obtain ⟨L0, hL0⟩ : ∃ L0, L0 = [0x44, 0x59, UInt8.ofNat f.kind] := ⟨_, rfl⟩
  rw [← hL0] at HR0
  have HL0 := hide hL0
  clear hr0 hR0 hL0
  refine (ref_put4 HR0.out 7 rfl (by omega) (by omega)).mono ?_
  rintro e W1 ⟨a1, d1, rfl, hR⟩
  clear c0 c1 c2 c3 c4 c5 c6 c7 c8 c9 c10
  obtain ⟨c0, c1, c2, c3, c4, c5, c6, c7, c8, c9, c10⟩ := (HA2.out.low hR.2.2.1).cells
  obtain ⟨L1, hL⟩ : ∃ L, L = L0 ++ be4 f.epoch := ⟨_, rfl⟩
  rw [← hL] at hR
  have HL1 := hide hL; have HR1 := hide hR
  clear hR hL HR0
  go_wp2_with fail
  refine (ref_put4 HR1.out 11 rfl (by omega) (by omega)).mono ?_
  rintro e W2 ⟨a2, d2, rfl, hR⟩
  clear c0 c1 c2 c3 c4 c5 c6 c7 c8 c9 c10
  obtain ⟨c0, c1, c2, c3, c4, c5, c6, c7, c8, c9, c10⟩ := (HA2.out.low hR.2.2.1).cells
  obtain ⟨L2, hL⟩ : ∃ L, L = L1 ++ be4 f.series := ⟨_, rfl⟩
  rw [← hL] at hR
  have HL2 := hide hL; have HR2 := hide hR
  clear hR hL HR1
  go_wp2_with fail
  refine (ref_put4 HR2.out 15 rfl (by omega) (by omega)).mono ?_
  rintro e W3 ⟨a3, d3, rfl, hR⟩
  clear c0 c1 c2 c3 c4 c5 c6 c7 c8 c9 c10
  obtain ⟨c0, c1, c2, c3, c4, c5, c6, c7, c8, c9, c10⟩ := (HA2.out.low hR.2.2.1).cells
  obtain ⟨L3, hL⟩ : ∃ L, L = L2 ++ be4 f.chunk := ⟨_, rfl⟩
  rw [← hL] at hR
  have HL3 := hide hL; have HR3 := hide hR
  clear hR hL HR2
  go_wp2_with fail
  refine (ref_put4 HR3.out 19 rfl (by omega) (by omega)).mono ?_
  rintro e W4 ⟨a4, d4, rfl, hR⟩
  clear c0 c1 c2 c3 c4 c5 c6 c7 c8 c9 c10
  obtain ⟨c0, c1, c2, c3, c4, c5, c6, c7, c8, c9, c10⟩ := (HA2.out.low hR.2.2.1).cells
  obtain ⟨L4, hL⟩ : ∃ L, L = L3 ++ be4 f.bits := ⟨_, rfl⟩
  rw [← hL] at hR
  have HL4 := hide hL; have HR4 := hide hR
  clear hR hL HR3
  go_wp2_with fail
  refine (ref_put4 HR4.out 23 rfl (by omega) (by omega)).mono ?_
  rintro e W5 ⟨a5, d5, rfl, hR⟩
  clear c0 c1 c2 c3 c4 c5 c6 c7 c8 c9 c10
  obtain ⟨c0, c1, c2, c3, c4, c5, c6, c7, c8, c9, c10⟩ := (HA2.out.low hR.2.2.1).cells
  obtain ⟨L5, hL⟩ : ∃ L, L = L4 ++ be4 f.cnt := ⟨_, rfl⟩
  rw [← hL] at hR
  have HL5 := hide hL; have HR5 := hide hR
  clear hR hL HR4
  go_wp2_with fail
  refine (ref_put4 HR5.out 27 rfl (by omega) (by omega)).mono ?_
  rintro e W6 ⟨a6, d6, rfl, hR⟩
  clear c0 c1 c2 c3 c4 c5 c6 c7 c8 c9 c10
  obtain ⟨c0, c1, c2, c3, c4, c5, c6, c7, c8, c9, c10⟩ := (HA2.out.low hR.2.2.1).cells
  obtain ⟨L6, hL⟩ : ∃ L, L = L5 ++ be4 f.count := ⟨_, rfl⟩
  rw [← hL] at hR
  have HL6 := hide hL; have HR6 := hide hR
  clear hR hL HR5
  have hcl0 : f.closed = true ∨ f.closed = false := by cases f.closed <;> simp
  rcases hcl0 with hcl | hcl
  · have HFL : Hid (flagB f.closed = 1) := hide (by rw [hcl]; rfl)
    have hrf : RdB (W6.alloc (.cells #[.int .u8 1] 5)) (.slice (some ⟨W6.heap.size, 0, none⟩) 1 1) [1] :=
      rdb_row (l := [1]) (e := 5) (fr := (0, 0)) (by rw [heap_alloc_at]; rfl) (by simp) 1
    have HRF := hide hrf
    have HR7 := hide (HR6.out.2.to (below_alloc W6 (.cells #[.int .u8 1] 5)))
    have h27 : L6.length = 27 := HR6.out.1.symm
    have H27 := hide h27
    clear hrf h27 HR6
    go_wp2_with (at_builtin; refine wpList_copy_own rfl (.tmp 49) (.tmp 51) 26 rfl w2 w2.heap.size 5 Try.underlying26 info_u8' (.slice a6 27 d6) L6 rfl HR7.out _ [1] rfl HRF.out (by rw [H27.out]; simp) ?_)
    intro a7 d7 W7 hR3 hb3
    have e28 : L6.length + 1 = 28 := by rw [H27.out]
    rw [e28] at hR3 ⊢
    have hR : RowM w2 w2.heap.size a7 28 d7 (L6 ++ [1]) W7 := ⟨by simp [H27.out], hR3⟩
    clear c0 c1 c2 c3 c4 c5 c6 c7 c8 c9 c10 HR7 HRF e28 hR3 hb3
    obtain ⟨c0, c1, c2, c3, c4, c5, c6, c7, c8, c9, c10⟩ := (HA2.out.low hR.2.2.1).cells
    obtain ⟨L7, hL⟩ : ∃ L, L = L6 ++ [(1 : UInt8)] := ⟨_, rfl⟩
    rw [← hL] at hR
    have HL7 := hide hL; have HR7 := hide hR
    clear hR hL
    go_wp2_with fail
    refine (ref_put8 HR7.out 36 rfl (by omega) (by omega)).mono ?_
    rintro e W8 ⟨a8, d8, rfl, hR⟩
    clear c0 c1 c2 c3 c4 c5 c6 c7 c8 c9 c10
    obtain ⟨c0, c1, c2, c3, c4, c5, c6, c7, c8, c9, c10⟩ := (HA2.out.low hR.2.2.1).cells
    obtain ⟨L8, hL⟩ : ∃ L, L = L7 ++ be4 (f.sum / 4294967296) ++ be4 (f.sum % 4294967296) := ⟨_, rfl⟩
    rw [← hL] at hR
    have HL8 := hide hL; have HR8 := hide hR
    clear hR hL HR7
    obtain ⟨N, hN⟩ : ∃ N : Nat, f.n = (N : Int) := ⟨f.n.toNat, by omega⟩
    rw [hN] at c10
    have HN := hide hN
    have hN2 : N < 4294967296 := by omega
    clear hN n0 n1
    go_wp2_with fail
    refine (ref_put4 HR8.out 40 rfl (by omega) (by omega)).mono ?_
    rintro e W9 ⟨a9, d9, rfl, hR⟩
    clear c0 c1 c2 c3 c4 c5 c6 c7 c8 c9 c10
    obtain ⟨c0, c1, c2, c3, c4, c5, c6, c7, c8, c9, c10⟩ := (HA2.out.low hR.2.2.1).cells
    have hH : L8 ++ be4 N = headB f := by
      rw [HL8.out, HL7.out, HL6.out, HL5.out, HL4.out, HL3.out, HL2.out, HL1.out, HL0.out, ← HFL.out]
      unfold headB
      rw [HN.out, show ((N : Int) % 4294967296).toNat = N by omega]
    rw [hH] at hR
    have HR9 := hide hR; have HX9 := hide (HX2.out.low hR.2.2.1)
    clear hR HR8 hH
    go_wp2_with (at_builtin; refine wpList_copy_own rfl (.tmp 63) (.tmp 66) 26 rfl w2 w2.heap.size 5 Try.underlying26 info_u8' (.slice a9 40 d9) (headB f) rfl HR9.out.2 _ f.b rfl HX9.out (by rw [headB_length]; omega) ?_)
    intro a10 d10 W10 hR10 _
    rw [show headB f ++ f.b = bodyB f from rfl] at hR10
    have hbl : (bodyB f).length = 40 + f.b.length := by simp [bodyB, headB_length]
    have e10 : (headB f).length + f.b.length = (bodyB f).length := by simp [bodyB]
    rw [e10] at hR10 ⊢
    obtain ⟨M, hM⟩ : ∃ M, M = bodyB f := ⟨_, rfl⟩
    rw [← hM] at hR10 hbl ⊢
    have hMl : M.length ≤ 1000040 := by omega
    have HM1 := hide hM; have HR10 := hide hR10
    clear hR10 hM HR9 HX9 c0 c1 c2 c3 c4 c5 c6 c7 c8 c9 c10 hbl e10
    go_wp2_with fail
    refine (ref_sum _ M _ (ownsRow_rd HR10.out.1) (by omega)).mono ?_
    rintro e w' ⟨rfl, rfl⟩
    have hcl2 := crcSum_lt M
    go_wp2_with fail
    refine (ref_put4 (⟨rfl, HR10.out⟩ : RowM w2 w2.heap.size a10 M.length d10 M W10) (M.length + 4) rfl (by omega) (by omega)).mono ?_
    rintro e W11 ⟨a11, d11, rfl, hR⟩
    have hW : writeB f = M ++ be4 (crcSum M) := by rw [HM1.out]; rfl
    rw [← hW] at hR
    have HR11 := hide hR
    clear hR hW HR10
    go_wp2
    go_ret2
    refine ⟨a11, M.length + 4, d11, rfl, ?_, hW2.out.trans (HR11.out.2.2.1.mono hW2.out.size)⟩
    have h1 := HR11.out.2.1
    have h2 := HR11.out.1
    rw [h2] at h1 ⊢
    exact ownsRow_rd h1
  · have HFL : Hid (flagB f.closed = 0) := hide (by rw [hcl]; rfl)
    have hrf : RdB (W6.alloc (.cells #[.int .u8 0] 5)) (.slice (some ⟨W6.heap.size, 0, none⟩) 1 1) [0] :=
      rdb_row (l := [0]) (e := 5) (fr := (0, 0)) (by rw [heap_alloc_at]; rfl) (by simp) 1
    have HRF := hide hrf
    have HR7 := hide (HR6.out.2.to (below_alloc W6 (.cells #[.int .u8 0] 5)))
    have h27 : L6.length = 27 := HR6.out.1.symm
    have H27 := hide h27
    clear hrf h27 HR6
    go_wp2_with (at_builtin; refine wpList_copy_own rfl (.tmp 49) (.tmp 51) 26 rfl w2 w2.heap.size 5 Try.underlying26 info_u8' (.slice a6 27 d6) L6 rfl HR7.out _ [0] rfl HRF.out (by rw [H27.out]; simp) ?_)
    intro a7 d7 W7 hR3 hb3
    have e28 : L6.length + 1 = 28 := by rw [H27.out]
    rw [e28] at hR3 ⊢
    have hR : RowM w2 w2.heap.size a7 28 d7 (L6 ++ [0]) W7 := ⟨by simp [H27.out], hR3⟩
    clear c0 c1 c2 c3 c4 c5 c6 c7 c8 c9 c10 HR7 HRF e28 hR3 hb3
    obtain ⟨c0, c1, c2, c3, c4, c5, c6, c7, c8, c9, c10⟩ := (HA2.out.low hR.2.2.1).cells
    obtain ⟨L7, hL⟩ : ∃ L, L = L6 ++ [(0 : UInt8)] := ⟨_, rfl⟩
    rw [← hL] at hR
    have HL7 := hide hL; have HR7 := hide hR
    clear hR hL
    go_wp2_with fail
    refine (ref_put8 HR7.out 36 rfl (by omega) (by omega)).mono ?_
    rintro e W8 ⟨a8, d8, rfl, hR⟩
    clear c0 c1 c2 c3 c4 c5 c6 c7 c8 c9 c10
    obtain ⟨c0, c1, c2, c3, c4, c5, c6, c7, c8, c9, c10⟩ := (HA2.out.low hR.2.2.1).cells
    obtain ⟨L8, hL⟩ : ∃ L, L = L7 ++ be4 (f.sum / 4294967296) ++ be4 (f.sum % 4294967296) := ⟨_, rfl⟩
    rw [← hL] at hR
    have HL8 := hide hL; have HR8 := hide hR
    clear hR hL HR7
    obtain ⟨N, hN⟩ : ∃ N : Nat, f.n = (N : Int) := ⟨f.n.toNat, by omega⟩
    rw [hN] at c10
    have HN := hide hN
    have hN2 : N < 4294967296 := by omega
    clear hN n0 n1
    go_wp2_with fail
    refine (ref_put4 HR8.out 40 rfl (by omega) (by omega)).mono ?_
    rintro e W9 ⟨a9, d9, rfl, hR⟩
    clear c0 c1 c2 c3 c4 c5 c6 c7 c8 c9 c10
    obtain ⟨c0, c1, c2, c3, c4, c5, c6, c7, c8, c9, c10⟩ := (HA2.out.low hR.2.2.1).cells
    have hH : L8 ++ be4 N = headB f := by
      rw [HL8.out, HL7.out, HL6.out, HL5.out, HL4.out, HL3.out, HL2.out, HL1.out, HL0.out, ← HFL.out]
      unfold headB
      rw [HN.out, show ((N : Int) % 4294967296).toNat = N by omega]
    rw [hH] at hR
    have HR9 := hide hR; have HX9 := hide (HX2.out.low hR.2.2.1)
    clear hR HR8 hH
    go_wp2_with (at_builtin; refine wpList_copy_own rfl (.tmp 63) (.tmp 66) 26 rfl w2 w2.heap.size 5 Try.underlying26 info_u8' (.slice a9 40 d9) (headB f) rfl HR9.out.2 _ f.b rfl HX9.out (by rw [headB_length]; omega) ?_)
    intro a10 d10 W10 hR10 _
    rw [show headB f ++ f.b = bodyB f from rfl] at hR10
    have hbl : (bodyB f).length = 40 + f.b.length := by simp [bodyB, headB_length]
    have e10 : (headB f).length + f.b.length = (bodyB f).length := by simp [bodyB]
    rw [e10] at hR10 ⊢
    obtain ⟨M, hM⟩ : ∃ M, M = bodyB f := ⟨_, rfl⟩
    rw [← hM] at hR10 hbl ⊢
    have hMl : M.length ≤ 1000040 := by omega
    have HM1 := hide hM; have HR10 := hide hR10
    clear hR10 hM HR9 HX9 c0 c1 c2 c3 c4 c5 c6 c7 c8 c9 c10 hbl e10
    go_wp2_with fail
    refine (ref_sum _ M _ (ownsRow_rd HR10.out.1) (by omega)).mono ?_
    rintro e w' ⟨rfl, rfl⟩
    have hcl2 := crcSum_lt M
    go_wp2_with fail
    refine (ref_put4 (⟨rfl, HR10.out⟩ : RowM w2 w2.heap.size a10 M.length d10 M W10) (M.length + 4) rfl (by omega) (by omega)).mono ?_
    rintro e W11 ⟨a11, d11, rfl, hR⟩
    have hW : writeB f = M ++ be4 (crcSum M) := by rw [HM1.out]; rfl
    rw [← hW] at hR
    have HR11 := hide hR
    clear hR hW HR10
    go_wp2
    go_ret2
    refine ⟨a11, M.length + 4, d11, rfl, ?_, hW2.out.trans (HR11.out.2.2.1.mono hW2.out.size)⟩
    have h1 := HR11.out.2.1
    have h2 := HR11.out.1
    rw [h2] at h1 ⊢
    exact ownsRow_rd h1
end Go.Proofs.Ytnnhgennmlkpmaa
