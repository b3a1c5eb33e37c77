/-
  The walk of the law CrcBursts.
-/
import Derived.Test.YtiocakcanabjjaaCrcD
import Derived.Test.YtiocakcanabjjaaCrcF
import Derived.Deep.DeepCutAuto
namespace Go.Proofs.Ytiocakcanabjjaa
open Go.RowKit
set_option linter.unusedVariables false
set_option linter.unusedSimpArgs false

def chB (run n : Nat) : Bool := decide (run % 2 ^ n ≠ 0)
theorem bit_test (run n : Nat) : ((run : Int) / 2 ^ n).tmod 2 = ((run / 2 ^ n % 2 : Nat) : Int) := by
  have e : ((run : Int) / 2 ^ n) = ((run / 2 ^ n : Nat) : Int) := by simp
  rw [e, Int.tmod_eq_emod_of_nonneg (Int.natCast_nonneg _)]
  rfl
theorem chB_same {run n : Nat} (h : ¬ run / 2 ^ n % 2 = 1) : chB run (n + 1) = chB run n := by
  have h0 : run / 2 ^ n % 2 = 0 := by omega
  unfold chB
  rw [mod_pow_succ, h0, Nat.mul_zero, Nat.zero_add]
theorem chB_more {run n : Nat} (h : run / 2 ^ n % 2 = 1) : chB run (n + 1) = true := by
  have := Nat.two_pow_pos n
  unfold chB
  rw [mod_pow_succ, h]
  simp

set_option maxRecDepth 100000 in
set_option maxHeartbeats 1600000 in
theorem law_CrcBursts (W : World) (vb : Value) (b : List UInt8) (hb : RdB W vb b) (hl : b.length ≤ 9223372036854775807) (at_ : Int) (lo : -9223372036854775808 ≤ at_) (hi : at_ ≤ 9223372036854775807) (run : Int) (r0 : 0 ≤ run) (r1 : run ≤ 4294967295) :
    Calls Try.prog 5 #[vb, .int .i64 at_, .int .u32 run] W fun e w' => e = .returned (.bool true) ∧ Below W.heap.size W w' := by
  obtain ⟨run, rfl⟩ := Int.eq_ofNat_of_zero_le r0
  obtain ⟨a, c, rfl⟩ := hb.head
  have HB := hide hb
  clear hb
  by_cases hlen : 2000 < b.length
  · go_enter Try.func5, Try.ntmps5
    go_wp2_with (go_at_call 12; refine (crc_known _).mono ?_; rintro e w' ⟨rfl, hb1⟩; have HBw := hide hb1; clear hb1)
    go_ret
    exact ⟨rfl, HBw.out⟩
  by_cases hz : b.length = 0
  · have hz' : ((b.length : Int) == 0) = true := by simp [hz]
    clear hz
    go_enter Try.func5, Try.ntmps5
    go_wp2_with (go_at_call 12; refine (crc_known _).mono ?_; rintro e w' ⟨rfl, hb1⟩; have HBw := hide hb1; clear hb1)
    go_ret
    exact ⟨rfl, HBw.out⟩
  have hz' : ((b.length : Int) == 0) = false := by rw [beq_eq_false_iff_ne]; omega
  have hp : 0 < b.length := by omega
  clear hz
  go_enter Try.func5, Try.ntmps5
  go_wp2_with fail
  refine (crc_known _).mono ?_
  rintro e w1 ⟨rfl, hb1⟩
  have HB1 := hide hb1
  have hb1' := hide (HB.out.low hb1)
  clear hb1
  go_upto_region 3 with fail
  go_cut [7] (fun s wx => ∃ fr : Nat, s = .int .i64 fr ∧ fr < 8 * b.length ∧ wx = w1)
  case first =>
    have e : ∃ fr : Nat, fr < 8 * b.length ∧ (at_ % (8 * (b.length : Int))) = fr := by
      have h0 := Int.emod_nonneg at_ (show (8 * (b.length : Int)) ≠ 0 by omega)
      have h1 := Int.emod_lt_of_pos at_ (show (0 : Int) < 8 * (b.length : Int) by omega)
      exact ⟨(at_ % (8 * (b.length : Int))).toNat, by omega, by omega⟩
    obtain ⟨fr, he1, he2⟩ := e
    have HE2 := hide he2
    clear he2
    go_wp2_with fail
    all_goals go_meet
    · exact ⟨0, rfl, by omega, rfl⟩
    · exact ⟨fr, by rw [HE2.out], he1, rfl⟩
  case rest =>
  obtain ⟨fr, rfl, hfr, hwc⟩ := hcut
  subst hwc
  go_wp2_with (at_builtin; refine wpList_clone_rd rfl (.tmp 32) (.tmp 33) 22 rfl 5 Try.underlying22 info_u8' rfl _ b rfl hb1'.out (by omega) ?_)
  intro ao co w2 hown hb2
  have HL3 := hide hb2
  have HO2 := hide hown
  have hs2 := hb2.size
  clear hown hb2
  go_wp2
  go_loopw [9, 10] (fun ch i wr => ∃ (n : Nat), n ≤ 32 ∧ i = .int .i64 n ∧ ch = .bool (chB run n) ∧ fr + n ≤ 8 * b.length ∧ Hid (wr.ownsRow wc.heap.size 5 1 (.slice ao b.length co) b.length (bcells (flips b fr run n)) ∧ Below wc.heap.size wc wr)) (fun _ i _ => 32 - (intOf i).toNat)
  case atStart => exact ⟨0, by omega, rfl, by simp [chB, Nat.mod_one], by omega, HO2.out, HL3.out⟩
  case round =>
    obtain ⟨n, hn, rfl, rfl, hfn, hR⟩ := hrel
    have hn0 : (0 : Int) ≤ n := by omega
    by_cases hgo : n < 32 ∧ fr + n < 8 * b.length
    · obtain ⟨g1, g2⟩ := hgo
      have g3 : (n : Int) < 32 := by omega
      have g4 : (fr : Int) + (n : Int) < 8 * (b.length : Int) := by omega
      obtain ⟨go, cw, hgo, _⟩ := ownsRow_some hR.out.1 (by
        intro e0
        rcases hR.out.1.2 with ⟨_, hz⟩ | ⟨_, _, _, hz, _⟩
        · omega
        · rw [e0] at hz; cases hz)
      simp only [Value.slice.injEq, true_and] at hgo
      obtain ⟨rfl, rfl⟩ := hgo
      have htest := bit_test run n
      by_cases hbit : run / 2 ^ n % 2 = 1
      · have ht : (((run : Int) / 2 ^ n).tmod 2 == 1) = true := by rw [htest, hbit]; rfl
        have hfl : (flips b fr run n).length = b.length := flips_length b fr run n
        have hkl : (fr + n) / 8 < (flips b fr run n).length := by omega
        have ck : wr.cell? ⟨go, (fr + n) / 8, none⟩ = some (.int .u8 ((flips b fr run n).getD ((fr + n) / 8) 0).toNat) := by
          rw [hR.out.1.cellAt ((fr + n) / 8) (by omega)]
          simp [bcells, List.getD, List.getElem?_eq_getElem hkl]
        have fk : wr.frozen? ⟨go, (fr + n) / 8, none⟩ = false := hR.out.1.frozenAt _
        obtain ⟨y, hy⟩ : ∃ y, y = (flips b fr run n).getD ((fr + n) / 8) 0 := ⟨_, rfl⟩
        rw [← hy] at ck
        have hval : bits .xor .u8 (y.toNat : Int) (2 ^ ((fr + n) % 8) % 256) = ((y ^^^ bit8 ((fr + n) % 8)).toNat : Int) := by
          have hr : (fr + n) % 8 < 8 := by omega
          have h1 := bit8_nat hr
          have h2 := (bit8 ((fr + n) % 8)).toNat_lt
          have e : ((2 : Int) ^ ((fr + n) % 8) % 256) = ((bit8 ((fr + n) % 8)).toNat : Int) := by
            rw [h1, Int.emod_eq_of_lt]
            · simp
            · exact Int.pow_nonneg (by omega)
            · have := Nat.pow_lt_pow_right (a := 2) (by omega) hr
              exact_mod_cast this
          rw [e, u8_xor_nat _ _ (by have := y.toNat_lt; omega) (by omega), UInt8.toNat_xor]
        have hR2 : Hid ((wr.setCell ⟨go, (fr + n) / 8, none⟩ (.int .u8 ((y ^^^ bit8 ((fr + n) % 8)).toNat : Nat))).ownsRow wc.heap.size 5 1 (.slice (some ⟨go, 0, none⟩) b.length co) b.length (bcells (flips b fr run (n + 1))) ∧ Below wc.heap.size wc (wr.setCell ⟨go, (fr + n) / 8, none⟩ (.int .u8 ((y ^^^ bit8 ((fr + n) % 8)).toNat : Nat)))) := by
          refine hide ⟨?_, ?_⟩
          · have h5 := (hR.out.1.stored ((fr + n) / 8) (.int .u8 ((y ^^^ bit8 ((fr + n) % 8)).toNat : Nat))).1
            unfold flips
            rw [if_pos hbit]
            unfold flip1
            rw [← hy]
            simpa [bcells, List.map_set] using h5
          · exact hR.out.2.setCell (hR.out.1.lt go rfl).1 _
        have HV := hide hval
        have hch := hide (chB_more hbit)
        have q0 : (0 : Int) ≤ ((fr : Int) + (n : Int)) / 8 := by omega
        have q1 : ((fr : Int) + (n : Int)) / 8 < (b.length : Int) := by omega
        clear htest hbit hfl hkl hval hy
        go_wp2
        rw [HV.out]
        go_roundw
        case rel => exact ⟨n + 1, by omega, by go_num, by rw [hch.out], by omega, hR2⟩
        case measure => simp [intOf]; omega
      · have ht : (((run : Int) / 2 ^ n).tmod 2 == 1) = false := by
          rw [htest, beq_eq_false_iff_ne]
          omega
        have hR2 : Hid (wr.ownsRow wc.heap.size 5 1 (.slice (some ⟨go, 0, none⟩) b.length co) b.length (bcells (flips b fr run (n + 1))) ∧ Below wc.heap.size wc wr) := by
          unfold flips
          rw [if_neg hbit]
          exact hR
        have hch := hide (chB_same hbit)
        clear htest hbit
        go_wp2
        go_roundw
        case rel => exact ⟨n + 1, by omega, by go_num, by rw [hch.out], by omega, hR2⟩
        case measure => simp [intOf]; omega
    · have hend : Hid ((crcSum b = crcSum (flips b fr run n)) ↔ chB run n = false) := hide (by rw [crc_flips b fr run n hn hfn]; simp [chB])
      have hOl : (flips b fr run n).length = b.length := flips_length b fr run n
      have hOr : RdB wr (.slice ao b.length co) (flips b fr run n) := by
        show Rd _ _ 1 _ _
        rw [hOl]
        exact ownsRow_rd hR.out.1
      have hWr : Below W.heap.size W wr := HB1.out.trans (hR.out.2.mono HB1.out.size)
      have HBr := hide (HB.out.low hWr)
      have HOr := hide hOr; have HWr := hide hWr
      have hOl2 : (flips b fr run n).length ≤ 9223372036854775807 := by omega
      obtain ⟨q, hq⟩ : ∃ q, q = flips b fr run n := ⟨_, rfl⟩
      rw [← hq] at hend HOr hOl2
      clear hOr hWr hOl hq hR
      have hcase : (n < 32 ∧ ¬ (fr : Int) + (n : Int) < 8 * (b.length : Int)) ∨ ¬ n < 32 := by omega
      clear hgo
      rcases hcase with ⟨g1, g4⟩ | g1
      all_goals
        go_wp2_with fail
        refine (crc_new_at wr).mono ?_
        rintro e w2 ⟨rfl, hT, hb2, hlt⟩
        have hcs := cs_new (Below.refl _ wr) hT hb2
        generalize htb : wr.heap.size = tb at hcs hlt
        have HC := hide hcs
        clear hT hb2 hcs
        go_wp2_with fail
        refine (crc_sum_one tb false _ b _ _ (HC.out.alloc _).tab (heap_alloc_eq _ (by simp)) (by omega) (fun w' hc => (HC.out.alloc _).rd hc HBr.out) (by omega)).mono ?_
        rintro e w4 ⟨rfl, hT4, hc4⟩
        have HC4 := hide ((HC.out.alloc _).sum hT4 hc4)
        have hlt4 := HC4.out.lt
        clear hT4 hc4 HC
        go_wp2_with fail
        refine (crc_sum_one tb true _ q _ _ (HC4.out.alloc _).tab (heap_alloc_eq _ (by simp)) (by omega) (fun w' hc => (HC4.out.alloc _).rd hc HOr.out) hOl2).mono ?_
        rintro e w5 ⟨rfl, hT5, hc5⟩
        have HC5 := hide ((HC4.out.alloc _).sum hT5 hc5)
        clear hT5 hc5 HC4
        have hfin : ((((crcSum b : Nat) : Int) != ((crcSum q : Nat) : Int)) == chB run n) = true := by
          have h1 := hend.out
          cases hc : chB run n with
          | true =>
            have h2 : crcSum b ≠ crcSum q := fun e => by rw [h1.1 e] at hc; cases hc
            simp [bne_iff_ne, Int.natCast_inj, h2]
          | false =>
            have h2 := h1.2 hc
            simp [h2]
        have HF := hide hfin
        clear hfin
        go_wp2
        go_ret
        refine ⟨?_, HWr.out.trans (HC5.out.low.mono HWr.out.size)⟩
        exact congrArg (fun z => Ending.returned (.bool z)) HF.out
end Go.Proofs.Ytiocakcanabjjaa
