/-
  The walk of the law FrameReads.
-/
import Derived.Test.YtnnhgennmlkpmaaFrX
namespace Go.Proofs.Ytnnhgennmlkpmaa
open Go.RowKit
set_option linter.unusedVariables false
set_option linter.unusedSimpArgs false

theorem decE_cases (b : List UInt8) : decE b = 0 ∨ decE b = 70 ∨ decE b = 71 := by
  unfold decE goE
  cases lenOk b <;> cases sumOk b <;> cases isFr b <;> simp
theorem decE_wrap (b : List UInt8) : IntKind.i64.wrap (decE b) = decE b := by rcases decE_cases b with h | h | h <;> rw [h] <;> rfl
theorem sameB_self (f : Fr) : sameB f f = true := (sameB_iff f f).2 rfl
theorem frV_eq (f : Fr) (x : Value) : frV f x = .agg #[.int .u8 f.kind, .int .u32 f.epoch, .int .u32 f.series, .int .u32 f.chunk, .int .u32 f.bits, .int .u32 f.cnt, .int .u32 f.count, .bool f.closed, .int .u64 f.sum, x, .int .i64 f.n] := rfl

set_option maxRecDepth 100000 in
set_option maxHeartbeats 3200000 in
theorem law_FrameReads (W : World) (a : Option Addr) (c : Nat) (b : List UInt8) (hx : RdB W (.slice a b.length c) b) (hc : b.length ≤ c) (hc2 : c ≤ 9223372036854775807) :
    Calls Try.prog 4 #[.slice a b.length c] W fun e w' => e = .returned (.bool true) ∧ Below W.heap.size W w' := by
  have HX := hide hx
  clear hx
  obtain ⟨n, hn⟩ : ∃ n, n = b.length := ⟨_, rfl⟩
  rw [← hn] at HX hc ⊢
  have HN := hide hn
  clear hn
  by_cases hbig : 4300 < n
  · go_enter Try.func4, Try.ntmps4
    go_wp2_with (go_at_call 8; refine (fr_known _).mono ?_; rintro e w' ⟨rfl, hb1⟩; have HBw := hide hb1; clear hb1)
    go_ret
    exact ⟨rfl, HBw.out⟩
  go_enter Try.func4, Try.ntmps4
  go_wp2_with fail
  refine (fr_known _).mono ?_
  rintro e w1 ⟨rfl, hb1⟩
  have HB1 := hide hb1
  have HX1 := hide (RdB.low HX.out hb1)
  clear hb1
  go_wp2_with (at_builtin; refine wpList_clone_rd' rfl (.tmp 18) (.tmp 19) 26 rfl 5 Try.underlying26 info_u8' rfl _ b n HN.out rfl HX1.out (by omega) ?_)
  intro ao co w2 hown hb2
  obtain ⟨hk1, hk2⟩ := ownsRow_cap hown
  have HOWN := hide hown
  have HG : Hid (0 < n → ∃ g, ao = some ⟨g, 0, none⟩ ∧ w1.heap.size ≤ g ∧ g < w2.heap.size) := hide fun h0 => by
    obtain ⟨g, cap, he, hge⟩ := ownsRow_some hown (by intro e; rcases hown.2 with ⟨_, h1⟩ | ⟨_, _, _, h1, _⟩; · omega
                                                      · rw [e] at h1; cases h1)
    simp only [Value.slice.injEq] at he
    obtain ⟨rfl, _⟩ := he
    exact ⟨g, rfl, hge, (hown.lt g rfl).2⟩
  have HB2 := hide (HB1.out.trans (hb2.mono HB1.out.size))
  clear hown hb2
  go_wp2_with fail
  have hd := fr_decode ao co b w2 (by rw [← HN.out]; have h := ownsRow_rd HOWN.out; show Rd _ _ 1 _ _; rw [← HN.out]; exact h) (by rw [← HN.out]; omega) (by rw [← HN.out]; exact hk1) hk2
  rw [← HN.out] at hd
  refine hd.mono ?_
  clear hd
  rintro e w3 ⟨a3, c3, rfl, hr3, hb3, hg3⟩
  obtain ⟨F, hF⟩ : ∃ F, F = decF b := ⟨_, rfl⟩
  obtain ⟨E, hE⟩ : ∃ E, E = decE b := ⟨_, rfl⟩
  rw [← hF] at hr3 hg3 ⊢
  rw [← hE]
  rw [frV_eq]
  have HFF := hide hF; have HEE := hide hE
  have hA4 : FrAt (w3.alloc (.cells (frCells F (.slice a3 F.b.length c3)) 30)) w3.heap.size F (.slice a3 F.b.length c3) := FrAt.made _ _ _
  have hba := below_alloc w3 (.cells (frCells F (.slice a3 F.b.length c3)) 30)
  have HA4 := hide hA4
  have HR4 := hide (RdB.low hr3 hba)
  have HO4 := hide (ownsRow_below (ownsRow_below HOWN.out hb3 (Nat.le_refl _)) hba (Nat.le_refl _))
  have hb4 : Below W.heap.size W (w3.alloc (.cells (frCells F (.slice a3 F.b.length c3)) 30)) := (HB2.out.trans (hb3.mono HB2.out.size)).trans (hba.mono (by have := HB2.out.size; have := hb3.size; omega))
  have HB4 := hide hb4
  have HG3 := hide hg3
  have hsz3 := hb3.size
  have v1 := convert_rd b _ _ (show RdB (w3.alloc (.cells (frCells F (.slice a3 F.b.length c3)) 30)) (.slice ao n co) b by have h := ownsRow_rd HO4.out; show Rd _ _ 1 _ _; rw [← HN.out]; exact h)
  have v2 := convert_rd b _ _ (RdB.low HX.out hb4)
  have e1 := bytes_toList b
  unfold frCells at v1 v2
  clear hF hE hr3 hb3 hg3 hA4 hba hb4
  go_wp2
  have hWA : ∃ WA, WA = w3.alloc (.cells (frCells F (.slice a3 F.b.length c3)) 30) := ⟨_, rfl⟩
  obtain ⟨WA, hWA⟩ := hWA
  rw [← hWA] at HA4 HR4 HO4 HB4
  have hfc : frCells F (.slice a3 F.b.length c3) = #[.int .u8 F.kind, .int .u32 F.epoch, .int .u32 F.series, .int .u32 F.chunk, .int .u32 F.bits, .int .u32 F.cnt, .int .u32 F.count, .bool F.closed, .int .u64 F.sum, .slice a3 F.b.length c3, .int .i64 F.n] := rfl
  rw [hfc] at hWA
  rw [← hWA]
  clear hfc hWA v1 v2 e1
  obtain ⟨q, hq⟩ : ∃ q, q = w3.heap.size := ⟨_, rfl⟩
  rw [← hq] at HA4 hsz3 ⊢
  clear hq
  go_loopw [7] (fun i wr => ∃ k : Nat, k ≤ n ∧ i = .int .i64 k ∧ Hid (FrAt wr q F (.slice a3 F.b.length c3)) ∧ Hid (RdB wr (.slice a3 F.b.length c3) F.b) ∧ Hid (Below W.heap.size W wr) ∧ Hid (∃ L : List UInt8, L.length = n ∧ wr.ownsRow w1.heap.size 5 1 (.slice ao n co) n (bcells L))) (fun i _ => n - (intOf i).toNat)
  case atStart => exact ⟨0, by omega, rfl, HA4, HR4, HB4, hide ⟨b, HN.out.symm, HO4.out⟩⟩
  case round =>
    obtain ⟨k, hk, rfl, hA, hR, hB, hO⟩ := hrel
    by_cases hlt : k < n
    · obtain ⟨g, rfl, hg1, hg2⟩ := HG.out (by omega)
      obtain ⟨L, hL, hO⟩ := hO.out
      have ck : wr.cell? ⟨g, k, none⟩ = some (.int .u8 (L[k]'(by omega)).toNat) := by
        rw [hO.cellAt k (by omega)]
        simp [bcells, List.getElem?_eq_getElem (show k < L.length by omega)]
      have fk : wr.frozen? ⟨g, k, none⟩ = false := hO.frozenAt _
      obtain ⟨y, hy⟩ : ∃ y, y = L[k]'(by omega) := ⟨_, rfl⟩
      rw [← hy] at ck
      have hval : bits .xor .u8 (y.toNat : Int) 255 = ((y ^^^ 255).toNat : Int) := by
        have := u8_xor_nat y.toNat 255 (by have := y.toNat_lt; omega) (by omega)
        rw [UInt8.toNat_xor]
        exact this
      have hst := (hO.stored k (.int .u8 ((y ^^^ 255).toNat : Nat))).1
      have hset : (bcells L).set k (.int .u8 ((y ^^^ 255).toNat : Nat)) = bcells (L.set k (y ^^^ 255)) := by simp [bcells, List.map_set]
      have hO2 : Hid (∃ L : List UInt8, L.length = n ∧ (wr.setCell ⟨g, k, none⟩ (.int .u8 ((y ^^^ 255).toNat : Nat))).ownsRow w1.heap.size 5 1 (.slice (some ⟨g, 0, none⟩) n co) n (bcells L)) := hide ⟨L.set k (y ^^^ 255), by rw [List.length_set]; exact hL, by rw [← hset]; exact hst⟩
      have hA2 : Hid (FrAt (wr.setCell ⟨g, k, none⟩ (.int .u8 ((y ^^^ 255).toNat : Nat))) q F (.slice a3 F.b.length c3)) := hide ((heap_set_ne (by omega)).trans hA.out)
      have hR2 : Hid (RdB (wr.setCell ⟨g, k, none⟩ (.int .u8 ((y ^^^ 255).toNat : Nat))) (.slice a3 F.b.length c3) F.b) := hide (Rd.kept hR.out fun j hj _ => heap_set_ne (by have := HG3.out j hj; omega))
      have hB2 : Hid (Below W.heap.size W (wr.setCell ⟨g, k, none⟩ (.int .u8 ((y ^^^ 255).toNat : Nat)))) := hide (hB.out.setCell (by show W.heap.size ≤ g; have := HB1.out.size; omega) _)
      have HV := hide hval
      have i0 : (0 : Int) ≤ k := by omega
      have i1 : (k : Int) < n := by omega
      clear hval hst hset hy hO hL
      go_wp2
      rw [HV.out]
      go_roundw
      case rel => exact ⟨k + 1, by omega, by go_num, hA2, hR2, hB2, hO2⟩
      case measure => simp [intOf]; omega
    · obtain rfl : k = n := by omega
      have hsz := hA.out.lt
      go_wp2_with fail
      have hd := ref_decode a c b wr (by rw [← HN.out]; exact RdB.low HX.out hB.out) (by rw [← HN.out]; omega) (by rw [← HN.out]; exact hc) hc2
      rw [← HN.out] at hd
      refine hd.mono ?_
      clear hd
      rintro e w6 ⟨a6, c6, rfl, hr6, hb6⟩
      rw [← HFF.out] at hr6 ⊢
      rw [← HEE.out, frV_eq]
      have hA6 := hA.out.low hb6
      have hba := below_alloc w6 (.cells (frCells F (.slice a6 F.b.length c6)) 30)
      have HR7 := hide (RdB.low (RdB.low hR.out hb6) hba)
      have HQ7 := hide (RdB.low hr6 hba)
      obtain ⟨c0, c1, c2, c3', c4, c5, c6', c7, c8, c9, c10⟩ := hA6.cells
      have hs6 : q < w6.heap.size := hA6.lt
      have HB7 := hide ((hB.out.trans (hb6.mono hB.out.size)).trans (hba.mono (by have := hb6.size; have := hB.out.size; omega)))
      have hwe : IntKind.i64.wrap E = E := by rw [HEE.out]; exact decE_wrap b
      clear hr6 hb6 hA6 hba
      go_wp2_with fail
      rw [← frV_eq, ← frV_eq]
      refine (ref_same F a3 c3 F a6 c6 _ HR7.out HQ7.out).mono ?_
      rintro e w8 ⟨rfl, hb8⟩
      rw [sameB_self]
      have HB8 := hide (HB7.out.trans (hb8.mono HB7.out.size))
      clear hb8
      go_wp2
      go_ret
      exact ⟨rfl, HB8.out⟩
end Go.Proofs.Ytnnhgennmlkpmaa
