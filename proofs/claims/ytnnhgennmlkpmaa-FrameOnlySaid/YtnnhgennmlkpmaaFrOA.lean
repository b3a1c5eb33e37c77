/-
  The walk of the law FrameOnly.
-/
import Derived.Test.YtnnhgennmlkpmaaFrZ
import Derived.Test.YtnnhgennmlkpmaaFrY
import Derived.Test.YtnnhgennmlkpmaaFrN
namespace Go.Proofs.Ytnnhgennmlkpmaa
open Go.RowKit
set_option linter.unusedVariables false
set_option linter.unusedSimpArgs false

set_option maxRecDepth 100000 in
set_option maxHeartbeats 3200000 in
theorem law_FrameOnly (W : World) (a : Option Addr) (c : Nat) (b : List UInt8) (hx : RdB W (.slice a b.length c) b) (hc : b.length ≤ c) (hc2 : c ≤ 9223372036854775807) :
    Calls Try.prog 6 #[.slice a b.length c] W fun e w' => e = .returned (.bool true) ∧ Below W.heap.size W w' := by
  have HX := hide hx
  clear hx
  obtain ⟨n, hn⟩ : ∃ n, n = b.length := ⟨_, rfl⟩
  rw [← hn] at HX hc ⊢
  have HN := hide hn
  clear hn
  by_cases hbig : 4300 < n
  · go_enter Try.func6, Try.ntmps6
    go_wp2_with (go_at_call 8; refine (fr_known _).mono ?_; rintro e w' ⟨rfl, hb1⟩; have HBw := hide hb1; clear hb1)
    go_ret
    exact ⟨rfl, HBw.out⟩
  go_enter Try.func6, Try.ntmps6
  go_wp2_with fail
  refine (fr_known _).mono ?_
  rintro e w1 ⟨rfl, hb1⟩
  have HB1 := hide hb1
  have HX1 := hide (RdB.low HX.out hb1)
  clear hb1
  go_wp2_with fail
  have hd := fr_decode a c b w1 (by rw [← HN.out]; exact HX1.out) (by rw [← HN.out]; omega) (by rw [← HN.out]; exact hc) hc2
  rw [← HN.out] at hd
  refine hd.mono ?_
  clear hd
  rintro e w3 ⟨a3, cc3, rfl, hr3, hb3, hg3⟩
  obtain ⟨F, hF⟩ : ∃ F, F = decF b := ⟨_, rfl⟩
  obtain ⟨E, hE⟩ : ∃ E, E = decE b := ⟨_, rfl⟩
  rw [← hF] at hr3 ⊢
  rw [← hE]
  rw [frV_eq]
  have HFF := hide hF; have HEE := hide hE
  have HR3 := hide hr3
  have HB3 := hide (HB1.out.trans (hb3.mono HB1.out.size))
  have hL : Hid (F.b.length ≤ 1000000) := hide (by rw [hF]; have := dec_len b; have := HN.out; omega)
  have hok : Hid F.Ok := hide (by rw [hF]; exact dec_Ok b)
  have HV : ∀ x, Hid (frV F x = .agg #[.int .u8 F.kind, .int .u32 F.epoch, .int .u32 F.series, .int .u32 F.chunk, .int .u32 F.bits, .int .u32 F.cnt, .int .u32 F.count, .bool F.closed, .int .u64 F.sum, x, .int .i64 F.n]) := fun x => hide rfl
  clear hF hE hr3 hb3 hg3
  by_cases hz : E = 0
  · subst hz
    obtain ⟨hm, hw, _, _⟩ := dec_ok HEE.out.symm
    rw [← HFF.out] at hm hw
    have HM := hide hm; have HW := hide hw
    clear hm hw
    go_wp2_with fail
    rw [← (HV _).out]
    refine (fr_encode_any F a3 cc3 _ hok.out hL.out (RdB.low HR3.out (below_alloc _ _))).mono ?_
    rintro e w4 ⟨a4, n4, cc4, rfl, ho4, hn4, hb4⟩
    have hE0 : encE F = 0 := by unfold encE; rw [HM.out]; rfl
    have hEB : encB F = b := by unfold encB; rw [HM.out]; exact HW.out
    rw [hEB] at ho4 hn4
    rw [hE0]
    have hb34 : Below w3.heap.size w3 w4 := (below_alloc w3 _).trans (hb4.mono (by simp))
    have v1 := convert_rd b _ w4 (by have h := HX.out; exact RdB.low h (HB3.out.trans (hb34.mono HB3.out.size)))
    have v2 := convert_rd b (.slice a4 n4 cc4) w4 (by have h := ownsRow_rd ho4; rw [hn4] at h ⊢; exact h)
    have e1 := bytes_toList b
    have hA4 := (FrAt.made w3 F (.slice a3 F.b.length cc3)).low (hb4.mono (by simp [frCells]))
    obtain ⟨c0, c1, c2, c3, c4, c5, c6, c7, c8, c9, c10⟩ := hA4.cells
    have hs4 : w3.heap.size < w4.heap.size := hA4.lt
    have HR4 := hide (RdB.low HR3.out hb34)
    have HB4 := hide (HB3.out.trans (hb34.mono HB3.out.size))
    clear ho4 hn4 hb4 hE0 hEB hb34 hA4
    go_wp2_with fail
    rw [← (HV _).out]
    refine (fr_may F a3 cc3 _ hok.out hL.out HR4.out).mono ?_
    rintro e w5 ⟨rfl, hb5⟩
    rw [HM.out]
    have HB5 := hide (HB4.out.trans (hb5.mono HB4.out.size))
    clear hb5
    go_wp2
    go_ret
    exact ⟨rfl, HB5.out⟩
  · have hzf : F = zeroFr := by rw [HFF.out]; exact dec_no (by rw [← HEE.out]; exact hz)
    have h7 : E = 70 ∨ E = 71 := by
      rcases decE_cases b with h | h | h
      · exact absurd (HEE.out.trans h) hz
      · exact .inl (HEE.out.trans h)
      · exact .inr (HEE.out.trans h)
    clear hz
    have HZF := hide hzf
    clear hzf
    have HSM : Hid (∀ w, RdB w (.slice a3 F.b.length cc3) F.b → Calls Try.prog 16 #[frV F (.slice a3 F.b.length cc3), .agg #[.int .u8 0, .int .u32 0, .int .u32 0, .int .u32 0, .int .u32 0, .int .u32 0, .int .u32 0, .bool false, .int .u64 0, .slice none 0 0, .int .i64 0]] w fun e w' => e = .returned (.bool true) ∧ Below w.heap.size w w') := hide fun w hw => by
      have h := ref_same F a3 cc3 zeroFr none 0 w hw (RdB.nil w)
      rw [show sameB F zeroFr = true by rw [HZF.out]; exact sameB_self _] at h
      exact h
    rcases h7 with rfl | rfl
    all_goals
      go_wp2_with fail
      rw [← (HV _).out]
      refine (HSM.out _ (RdB.low HR3.out (below_alloc _ _))).mono ?_
      rintro e w4 ⟨rfl, hb4⟩
      have HB4 := hide (HB3.out.trans (((below_alloc w3 _).trans (hb4.mono (by simp))).mono HB3.out.size))
      clear hb4
      go_wp2
      go_ret
      exact ⟨rfl, HB4.out⟩
end Go.Proofs.Ytnnhgennmlkpmaa
