/-
  Walks over the reference of frames: None, Bit, Sound, Same.
-/
import Derived.Test.YtnnhgennmlkpmaaFrE
namespace Go.Proofs.Ytnnhgennmlkpmaa
open Go.RowKit
set_option linter.unusedVariables false
set_option linter.unusedSimpArgs false

set_option maxRecDepth 100000 in
set_option maxHeartbeats 800000 in
theorem ref_none (a : Option Addr) (len c : Nat) (n : Int) (w : World) (hl : len ≤ 9223372036854775807) :
    Calls Try.prog 22 #[.agg #[.slice a len c, .int .i64 n]] w fun e w' => e = .returned (.bool (decide (n = 0) && decide (len = 0))) ∧ Below w.heap.size w w' := by
  go_enter Try.func22, Try.ntmps22
  go_wp2
  all_goals go_ret
  all_goals refine ⟨ret_bool ?_, below_alloc _ _⟩
  all_goals rw [Bool.eq_iff_iff]; simp [*]

theorem alloc_cell (w : World) (cs : Array Value) (e : TypeId) (j : Nat) : (w.alloc (.cells cs e)).cell? ⟨w.heap.size, j, none⟩ = cs[j]? := cell_of_row (w.alloc (.cells cs e)) w.heap.size j cs e (0, 0) (heap_alloc_at w _)
/-- the i-th bit -/
def bitAt (b : List UInt8) (i : Nat) : Nat := (b.getD (i / 8) 0).toNat / 2 ^ (7 - i % 8) % 2

set_option maxRecDepth 100000 in
set_option maxHeartbeats 800000 in
theorem ref_bit (a : Option Addr) (c : Nat) (b : List UInt8) (n : Int) (i : Nat) (w : World) (hx : RdB w (.slice a b.length c) b) (hl : b.length ≤ 1000000) (hi : i / 8 < b.length) :
    Calls Try.prog 35 #[.agg #[.slice a b.length c, .int .i64 n], .int .i64 (i : Nat)] w fun e w' => e = .returned (.int .u8 (bitAt b i : Nat)) ∧ Below w.heap.size w w' := by
  obtain ⟨b0, off, c0, he, hc, hb0⟩ := hx.at hi
  simp only [Value.slice.injEq, true_and] at he
  obtain ⟨rfl, rfl⟩ := he
  have hg : b[i / 8] = b.getD (i / 8) 0 := by simp [List.getD, List.getElem?_eq_getElem hi]
  have hcW := ((below_alloc w (.cells #[.slice (some ⟨b0, off, none⟩) b.length c, .int .i64 n] 28)).cell (p := ⟨b0, off + i / 8, none⟩) hb0).trans hc
  rw [hg] at hcW
  have HB : Hid (bitAt b i = (b.getD (i / 8) 0).toNat / 2 ^ (7 - i % 8) % 2) := hide rfl
  generalize b.getD (i / 8) 0 = y at hcW HB
  have hy := y.toNat_lt
  have i0 : 0 ≤ (i : Int) / 8 := by omega
  have i1 : (i : Int) / 8 < b.length := by omega
  have i2 : 0 ≤ (i : Int) % 8 := by omega
  have i3 : (i : Int) % 8 ≤ 7 := by omega
  have i4 : (i : Int) ≤ 8000000 := by omega
  clear hx hc hg hi
  go_enter Try.func35, Try.ntmps35
  go_wp2
  go_ret
  refine ⟨ret_int ?_, below_alloc _ _⟩
  have e : ((y.toNat : Int) / 2 ^ (7 - i % 8)) = ((y.toNat / 2 ^ (7 - i % 8) : Nat) : Int) := by simp
  rw [e, HB.out]
  have h1 : y.toNat / 2 ^ (7 - i % 8) ≤ y.toNat := Nat.div_le_self _ _
  have h2 := u8_and_nat (y.toNat / 2 ^ (7 - i % 8)) 1 (by omega) (by omega)
  rw [Nat.and_one_is_mod] at h2
  exact h2

set_option maxRecDepth 100000 in
set_option maxHeartbeats 800000 in
theorem ref_same01 (a1 : Option Addr) (c1 : Nat) (b1 : List UInt8) (n1 : Int) (a2 : Option Addr) (c2 : Nat) (b2 : List UInt8) (n2 : Int) (w : World) (h1 : RdB w (.slice a1 b1.length c1) b1) (h2 : RdB w (.slice a2 b2.length c2) b2) :
    Calls Try.prog 13 #[.agg #[.slice a1 b1.length c1, .int .i64 n1], .agg #[.slice a2 b2.length c2, .int .i64 n2]] w fun e w' => e = .returned (.bool (decide (n1 = n2) && (b1 == b2))) ∧ Below w.heap.size w w' := by
  have hb := (below_alloc w (.cells #[.slice a1 b1.length c1, .int .i64 n1] 28)).alloc (by simp) (.cells #[.slice a2 b2.length c2, .int .i64 n2] 28)
  have v1 := convert_rd b1 _ _ (h1.low hb)
  have v2 := convert_rd b2 _ _ (h2.low hb)
  have e1 := bytes_toList b1
  have e2 := bytes_toList b2
  have HB := hide hb
  clear h1 h2 hb
  by_cases hn : n1 = n2
  · have hnb : (n1 == n2) = true := by simpa using hn
    have HN : Hid (decide (n1 = n2) = true) := hide (by simpa using hn)
    clear hn
    go_enter Try.func13, Try.ntmps13
    go_wp2
    go_ret
    exact ⟨ret_bool (by rw [HN.out]; first | rfl | simp [e1, e2]), HB.out⟩
  · have hnb : (n1 == n2) = false := by simpa using hn
    have HN : Hid (decide (n1 = n2) = false) := hide (by simpa using hn)
    clear hn
    go_enter Try.func13, Try.ntmps13
    go_wp2
    go_ret
    exact ⟨ret_bool (by rw [HN.out]; rfl), HB.out⟩

theorem bitAt_lt (b : List UInt8) (i : Nat) : bitAt b i < 2 := Nat.mod_lt _ (by decide)
/-- the bits from n on are noughts -/
def restB (b : List UInt8) (n : Nat) : Bool := (List.range (8 * b.length)).all fun i => decide (i < n) || decide (bitAt b i = 0)

theorem restB_true {b : List UInt8} {n : Nat} (h : ∀ j, n ≤ j → j < 8 * b.length → bitAt b j = 0) : restB b n = true := by
  unfold restB
  rw [List.all_eq_true]
  intro j hj
  rw [List.mem_range] at hj
  by_cases e : j < n
  · simp [e]
  · simp [h j (by omega) hj]
theorem restB_false {b : List UInt8} {n j : Nat} (h1 : n ≤ j) (h2 : j < 8 * b.length) (h3 : bitAt b j ≠ 0) : restB b n = false := by
  unfold restB
  rw [Bool.eq_false_iff]
  intro h
  have := List.all_eq_true.1 h j (List.mem_range.2 h2)
  simp at this
  omega
theorem last_bits : ∀ (y : Fin 256) (r : Fin 8), (y.val &&& (255 >>> r.val) = 0) ↔ ∀ j : Fin 8, r ≤ j → y.val / 2 ^ (7 - j.val) % 2 = 0 := by decide +kernel
theorem sound_rest (b : List UInt8) (k : Nat) (h : (b.length : Int) = (k : Int) / 8 + min ((k : Int) % 8) 1) : soundB b k = restB b k := by
  unfold soundB
  rw [decide_eq_true h, decide_eq_true (by omega : (0 : Int) ≤ k)]
  simp only [Bool.true_and]
  by_cases hk : k % 8 = 0
  · rw [decide_eq_true (by omega : (k : Int) % 8 = 0), restB_true fun j h1 h2 => by omega]
    rfl
  · rw [decide_eq_false (by omega : ¬ (k : Int) % 8 = 0), Bool.false_or]
    have e : ((k : Int) % 8).toNat = k % 8 := by omega
    rw [e]
    have hl := last_bits ⟨(b.getD (b.length - 1) 0).toNat, (b.getD (b.length - 1) 0).toNat_lt⟩ ⟨k % 8, by omega⟩
    simp only at hl
    by_cases hz : (b.getD (b.length - 1) 0).toNat &&& 255 >>> (k % 8) = 0
    · rw [decide_eq_true hz]
      refine (restB_true fun j h1 h2 => ?_).symm
      have h3 := hl.1 hz ⟨j % 8, by omega⟩ (by show k % 8 ≤ j % 8; omega)
      unfold bitAt
      rw [show j / 8 = b.length - 1 by omega]
      exact h3
    · rw [decide_eq_false hz]
      have h4 : ¬ ∀ j : Fin 8, (⟨k % 8, by omega⟩ : Fin 8) ≤ j → (b.getD (b.length - 1) 0).toNat / 2 ^ (7 - j.val) % 2 = 0 := fun h => hz (hl.2 h)
      obtain ⟨j, hj⟩ := Classical.not_forall.1 h4
      obtain ⟨hj1, hj2⟩ := Classical.not_imp.1 hj
      have hj3 : k % 8 ≤ j.val := hj1
      have hj4 := j.isLt
      refine (restB_false (j := 8 * (b.length - 1) + j.val) (by omega) (by omega) ?_).symm
      unfold bitAt
      rw [show (8 * (b.length - 1) + j.val) / 8 = b.length - 1 by omega, show (8 * (b.length - 1) + j.val) % 8 = j.val by omega]
      exact hj2
theorem ref_bit' (a : Option Addr) (c m : Nat) (b : List UInt8) (n : Int) (i : Nat) (w : World) (hm : m = b.length) (hx : RdB w (.slice a m c) b) (hl : m ≤ 1000000) (hi : i / 8 < m) :
    Calls Try.prog 35 #[.agg #[.slice a m c, .int .i64 n], .int .i64 (i : Nat)] w fun e w' => e = .returned (.int .u8 (bitAt b i : Nat)) ∧ Below w.heap.size w w' := by
  subst hm
  exact ref_bit a c b n i w hx hl hi

set_option maxRecDepth 100000 in
set_option maxHeartbeats 1600000 in
theorem ref_sound (a : Option Addr) (c : Nat) (b : List UInt8) (n : Int) (w : World) (hx : RdB w (.slice a b.length c) b) (hl : b.length ≤ 1000000) (h0 : -9223372036854775808 ≤ n) (h1 : n ≤ 9223372036854775807) :
    Calls Try.prog 23 #[.agg #[.slice a b.length c, .int .i64 n]] w fun e w' => e = .returned (.bool (soundB b n)) ∧ Below w.heap.size w w' := by
  obtain ⟨len, hlen⟩ : ∃ len, len = b.length := ⟨_, rfl⟩
  have HX := hide hx
  clear hx
  have HL := hide hlen
  rw [← hlen] at HX hl ⊢
  clear hlen
  by_cases hok : 0 ≤ n ∧ (len : Int) = n / 8 + min (n % 8) 1
  case neg =>
    have hs : Hid (soundB b n = false) := hide (by
      unfold soundB; rw [← HL.out]
      by_cases h : 0 ≤ n
      · rw [decide_eq_true h, decide_eq_false (fun h2 => hok ⟨h, h2⟩)]; rfl
      · rw [decide_eq_false h]; rfl)
    have HO := hide hok
    clear hok
    by_cases hz : len = 0
    · have z1 : ((len : Int) != 0) = false := by simp [hz]
      have HZ := hide hz
      clear hz
      go_enter Try.func23, Try.ntmps23
      go_wp2
      all_goals first | (exfalso; have := HO.out; have := HZ.out; omega) | (go_ret; exact ⟨ret_bool hs.out.symm, below_alloc _ _⟩)
    · have z1 : ((len : Int) != 0) = true := by simp; omega
      have HZ := hide hz
      clear hz
      go_enter Try.func23, Try.ntmps23
      go_wp2
      all_goals first | (exfalso; have := HO.out; have := HZ.out; omega) | (go_ret; exact ⟨ret_bool hs.out.symm, below_alloc _ _⟩)
  obtain ⟨hn0, hle⟩ := hok
  obtain ⟨k0, rfl⟩ : ∃ k0 : Nat, n = (k0 : Int) := ⟨n.toNat, by omega⟩
  have g1 : ((k0 : Int) < 0) = False := by simp
  have i0 : (k0 : Int) ≤ 8 * (len : Int) := by omega
  have i1 : (len : Int) = 0 ∨ 8 * ((len : Int) - 1) < k0 := by omega
  have hs : Hid (soundB b k0 = restB b k0) := hide (sound_rest b k0 (by rw [← HL.out]; exact hle))
  have HE := hide hle
  have hW1 : ∃ W1, W1 = w.alloc (.cells #[.slice a len c, .int .i64 k0] 28) := ⟨_, rfl⟩
  obtain ⟨W1, hW1⟩ := hW1
  have c0 : W1.cell? ⟨w.heap.size, 0, none⟩ = some (.slice a len c) := by rw [hW1, alloc_cell]; rfl
  have c1 : W1.cell? ⟨w.heap.size, 1, none⟩ = some (.int .i64 k0) := by rw [hW1, alloc_cell]; rfl
  have hsz : w.heap.size < W1.heap.size := by rw [hW1]; simp
  have hX1 : RdB W1 (.slice a len c) b := by
    have h := HX.out
    rw [HL.out] at h ⊢
    rw [hW1]
    exact RdB.low h (below_alloc _ _)
  have hB1 : Below w.heap.size w W1 := by rw [hW1]; exact below_alloc _ _
  have HX1 := hide hX1; have HB1 := hide hB1; have HW1 := hide hW1; have C0 := hide c0; have C1 := hide c1
  have hj : Hid (∀ wr, Below W1.heap.size W1 wr → Below w.heap.size w wr) := hide fun wr h => HB1.out.trans (h.mono HB1.out.size)
  clear hW1 hX1 hB1 c0 c1 hle
  go_enter Try.func23, Try.ntmps23
  by_cases hz : len = 0
  · have z1 : ((len : Int) != 0) = false := by simp [hz]
    have HZ := hide hz
    have hrt : Hid (soundB b (k0 : Int) = true) := hide (by
      rw [hs.out]
      exact restB_true fun j h1 h2 => by have := HL.out; omega)
    have hk : k0 = 0 := by omega
    subst hk
    subst hz
    go_wp2
    refine wp_loop_rounds 1 ?_
    rw [rounds_succ]
    go_wp2
    go_ret
    exact ⟨ret_bool hrt.out.symm, below_alloc _ _⟩
  · have z1 : ((len : Int) != 0) = true := by simp; omega
    have i2 : 8 * ((len : Int) - 1) < k0 := by omega
    clear i1
    go_wp2
    rw [← HW1.out]
    go_loopw [3] (fun i wr => ∃ k : Nat, k0 ≤ k ∧ k ≤ 8 * len ∧ i = .int .i64 k ∧ Hid (∀ j, k0 ≤ j → j < k → bitAt b j = 0) ∧ Hid (Below W1.heap.size W1 wr)) (fun i _ => 8 * len - (intOf i).toNat)
    case atStart => exact ⟨k0, Nat.le_refl _, by omega, rfl, hide (fun j h1 h2 => by omega), hide (Below.refl _ _)⟩
    case round =>
      obtain ⟨k, hk1, hk2, rfl, hz0, hb⟩ := hrel
      have d0 := (hb.out.cell (p := ⟨w.heap.size, 0, none⟩) hsz).trans C0.out
      have d1 := (hb.out.cell (p := ⟨w.heap.size, 1, none⟩) hsz).trans C1.out
      have hbl := hb.out.size
      by_cases hlt : k < 8 * len
      · go_wp2_with fail
        refine (ref_bit' a c len b k0 k wr HL.out (HX1.out.low hb.out) (by omega) (by omega)).mono ?_
        rintro e w2 ⟨rfl, hb2⟩
        have HB2 := hide (hb.out.trans (hb2.mono hbl))
        have hlt2 := bitAt_lt b k
        clear hb2 d0 d1
        by_cases hbit : bitAt b k = 0
        · have e0 : ((bitAt b k : Int) == 1) = false := by simp [hbit]
          have HBT := hide hbit
          clear hbit
          go_wp2
          go_roundw
          case rel => exact ⟨k + 1, by omega, by omega, by go_num, hide (fun j h1 h2 => by
            by_cases e : j = k
            · rw [e]; exact HBT.out
            · exact hz0.out j h1 (by omega)), HB2⟩
          case measure => simp [intOf]; omega
        · have e0 : ((bitAt b k : Int) == 1) = true := by rw [beq_iff_eq]; omega
          have hf : Hid (soundB b (k0 : Int) = false) := hide (by rw [hs.out]; exact restB_false hk1 (by have := HL.out; omega) hbit)
          clear hbit
          go_wp2
          go_ret
          exact ⟨ret_bool hf.out.symm, hj.out _ HB2.out⟩
      · obtain rfl : k = 8 * len := by omega
        have hrt : Hid (soundB b (k0 : Int) = true) := hide (by
          rw [hs.out]
          exact restB_true fun j h1 h2 => hz0.out j h1 (by have := HL.out; omega))
        go_wp2
        go_ret
        exact ⟨ret_bool hrt.out.symm, hj.out _ hb.out⟩
end Go.Proofs.Ytnnhgennmlkpmaa
