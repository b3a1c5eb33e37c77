/-
  The walk of FsMoves.
-/
import Derived.Test.YtnlmoegdienhiaaFsW
import Derived.Test.YtnlmoegdienhiaaFsR
import Derived.Deep.DeepCutAuto
namespace Go.Proofs.Ytnlmoegdienhiaa
open Go.RowKit Go.Maps
set_option linter.unusedVariables false
set_option linter.unusedSimpArgs false

/-- a row of rows of bytes that is read: its i-th -/
theorem bytess_at {W : World} {a0 : Option Addr} {c0 n0 : Nat} {l : List Bs} (h0 : RdBs W (.slice a0 n0 c0) l) {i : Nat} (hil : i < l.length) :
    ∃ bb off pa pn pc, a0 = some ⟨bb, off, none⟩ ∧ bb < W.heap.size ∧ W.cell? ⟨bb, off + i, none⟩ = some (.slice pa pn pc) ∧ RdB W (.slice pa pn pc) l[i] ∧ pn = l[i].length ∧ (0 < pn → ∀ k, (Value.slice pa pn pc).ownBlock = some k → k < W.heap.size) := by
  obtain ⟨bb, off, cc, v, he, hcell, hrd, hbw⟩ := h0.at hil
  simp only [Value.slice.injEq] at he
  obtain ⟨rfl, -, rfl⟩ := he
  obtain ⟨pa, pc, rfl⟩ := hrd.head
  refine ⟨bb, off, pa, _, pc, rfl, hbw, hcell, hrd, rfl, fun h0 k hk => ?_⟩
  obtain ⟨b9, o9, c9, he, _, hb9⟩ := RdB.at hrd (k := 0) h0
  simp only [Value.slice.injEq] at he
  obtain ⟨rfl, -⟩ := he
  simp only [Value.ownBlock, Option.some.injEq] at hk
  omega
/-- what a Loss in a box is -/
theorem loss_box {W : World} {a2 : Option Addr} {n2 c2 : Nat} {t2 : Int} : ∀ WB, WB = W.alloc (.cells #[.slice a2 n2 c2, .int .i64 t2] 25) → Below W.heap.size W WB ∧ WB.heap.size = W.heap.size + 1 ∧ ∀ w', Below WB.heap.size WB w' → w'.cell? ⟨W.heap.size, 0, none⟩ = some (.slice a2 n2 c2) ∧ w'.cell? ⟨W.heap.size, 1, none⟩ = some (.int .i64 t2) := by
  rintro WB rfl
  refine ⟨below_alloc _ _, by simp, fun w' hw => ?_⟩
  have g1 := (hw.block W.heap.size (by simp)).trans (heap_alloc_at W _)
  simp [World.cell?, g1]
theorem RdK.lowK {W : World} {a2 : Option Addr} {n2 c2 : Nat} {K2 : List Bool} (h : RdK W (.slice a2 n2 c2) K2) (hn : n2 = K2.length) : 0 < n2 → ∀ k, (Value.slice a2 n2 c2).ownBlock = some k → k < W.heap.size := fun hp k hk => by
  obtain ⟨bb, off, cc, he, _, hb⟩ := RdK.at h (k := 0) (by omega)
  simp only [Value.slice.injEq] at he
  obtain ⟨rfl, -⟩ := he
  simp only [Value.ownBlock, Option.some.injEq] at hk
  omega

set_option maxRecDepth 100000 in
set_option maxHeartbeats 3200000 in
theorem law_FsMoves (W : World) (x0 : Value) (l : List Bs) (h0 : RdBs W x0 l) (u : UInt8) (a2 : Option Addr) (n2 c2 : Nat) (t2 : Int) (K2 : List Bool) (h2 : RdK W (.slice a2 n2 c2) K2) (hn2 : n2 = K2.length) (lo2 : -9223372036854775808 ≤ t2) (hi2 : t2 ≤ 9223372036854775807) :
    Calls Try.prog 5 #[x0, .int .u8 (u.toNat : Int), .agg #[.slice a2 n2 c2, .int .i64 t2]] W fun e w' => e = .returned (.bool true) ∧ Below W.heap.size W w' := by
  obtain ⟨WB, hWB⟩ : ∃ WB, WB = W.alloc (.cells #[.slice a2 n2 c2, .int .i64 t2] 25) := ⟨_, rfl⟩
  obtain ⟨hBB, hsz, hbc0⟩ := loss_box WB hWB
  have hbc := hide hbc0
  have HBB := hide hBB
  have H0 := hide (h0.low hBB); have H2 := hide (h2.low hBB)
  have HN2 := hide hn2
  have low2 := hide (H2.out.lowK hn2)
  obtain ⟨a0, c0, rfl⟩ := h0.head
  obtain ⟨e0, e1⟩ := hbc.out WB (Below.refl _ _)
  clear h0 h2 hn2 hBB hsz hbc0
  by_cases big1 : 20 < l.length
  · have i1 : (20 : Int) < l.length := by omega
    go_enter Try.func5, Try.ntmps5
    go_upto_region 1 with fail
    rw [← hWB]
    clear hWB
    go_wp2_with (refine (fs_known _).mono ?_; rintro e w' ⟨rfl, hb⟩; have HB := hide hb; clear hb)
    go_ret
    exact ⟨rfl, HBB.out.trans (HB.out.mono HBB.out.size)⟩
  have i1 : ¬ ((20 : Int) < l.length) := by omega
  by_cases big2 : 60 < n2
  · have i2 : (60 : Int) < n2 := by omega
    go_enter Try.func5, Try.ntmps5
    go_upto_region 1 with fail
    rw [← hWB]
    clear hWB
    go_wp2_with (refine (fs_known _).mono ?_; rintro e w' ⟨rfl, hb⟩; have HB := hide hb; clear hb)
    go_ret
    exact ⟨rfl, HBB.out.trans (HB.out.mono HBB.out.size)⟩
  have i2 : ¬ ((60 : Int) < n2) := by omega
  have hkx : ([120] : Bs).length ≤ maxLen := by decide
  have hky : ([121] : Bs).length ≤ maxLen := by decide
  go_enter Try.func5, Try.ntmps5
  go_upto_region 1 with fail
  rw [← hWB]
  clear hWB
  go_wp2_with fail
  refine (fs_known _).mono ?_
  rintro e w1 ⟨rfl, hb1⟩
  have HB1 := hide hb1
  clear hb1
  go_wp2_with fail
  refine (fs_New' 10000 (by omega) (by omega) WB w1 HB1.out).mono ?_
  rintro e w2 ⟨sa, F0, rfl, hf0, _, _⟩
  have G0 := hide hf0
  clear hf0 HB1
  go_wp2_with fail
  refine (fs_New' 10000 (by omega) (by omega) WB w2 G0.out.low).mono ?_
  rintro e w3 ⟨sb, G1, rfl, hg1, hge, hb3⟩
  have T0 : Hid (Two WB w3 sa (fsNew 10000) F0 sb (fsNew 10000) G1) := hide ⟨G0.out.then hb3, hg1, fun k hk hm => by have := hge k hm; have := G0.out.rep.lt k hk; omega⟩
  clear G0 hg1 hge hb3
  go_wp2_with fail
  refine (fs_Create sa _ F0 [120] hkx w3 T0.out.a.rep T0.out.a.ok).mono ?_
  rintro e w4 ⟨rfl, ht⟩
  obtain ⟨F1, ht1⟩ := T0.out.step ht (fsCreate_ok T0.out.a.ok [120])
  rw [oneS_new (by decide)] at ht1
  have T1 := hide ht1
  clear T0 ht ht1
  go_wp2_with fail
  refine (fs_Create sb _ G1 [121] hky w4 T1.out.b.rep T1.out.b.ok).mono ?_
  rintro e w5 ⟨rfl, ht⟩
  obtain ⟨G2, ht1⟩ := T1.out.symm.step ht (fsCreate_ok T1.out.b.ok [121])
  rw [oneS_new (by decide)] at ht1
  have T2 := hide ht1.symm
  clear T1 ht ht1 e0 e1
  go_wp2
  obtain ⟨m, hm⟩ : ∃ m : Nat, (u.toNat : Int).tmod 20 = (m : Int) := ⟨((u.toNat : Int).tmod 20).toNat, by have := Int.tmod_nonneg (20 : Int) (show (0 : Int) ≤ (u.toNat : Int) by omega); omega⟩
  have hm20 : m < 20 := by have := Int.tmod_lt_of_pos (u.toNat : Int) (show (0 : Int) < 20 by omega); omega
  have hmw : IntKind.i64.wrap (m : Int) = m := wrap64 (by omega) (by omega)
  go_loopw [9] (fun iv wr => ∃ (i : Nat) (B : Bs) (P : List Bs) (F G : List Nat), iv = .int .i64 i ∧ i ≤ l.length ∧ Hid (Two WB wr sa (oneS [120] B P) F sb (oneS [121] B P) G)) (fun iv _ => match iv with | .int _ j => l.length - j.toNat | _ => 0)
  case atStart => exact ⟨0, [], [], F1, G2, rfl, Nat.zero_le _, T2⟩
  case round =>
    obtain ⟨i, B, P, F, G, rfl, hi, hT⟩ := hrel
    clear T2
    by_cases hil : i < l.length
    · have i0 : (i : Int) < l.length := by omega
      obtain ⟨bb, off, pa, pn, pc, rfl, hbb, hcell0, hrd0, hpn0, hplow0⟩ := bytess_at H0.out hil
      obtain ⟨p, hp⟩ : ∃ p, p = l[i] := ⟨_, rfl⟩
      rw [← hp] at hrd0 hpn0
      have HRD := hide hrd0; have HPN := hide hpn0; have HPL := hide hplow0; have HCELL := hide hcell0
      have hcell := (hT.out.a.low.cell (p := ⟨bb, off + i, none⟩) hbb).trans hcell0
      clear hcell0 hrd0 hpn0 hplow0 hp
      by_cases hbig : 300 < pn
      · have i4 : (300 : Int) < pn := by omega
        go_wp2
        go_ret
        exact ⟨rfl, HBB.out.trans (hT.out.a.low.mono HBB.out.size)⟩
      · have i4 : ¬ ((300 : Int) < pn) := by omega
        go_wp2_with fail
        refine (fs_Append sa _ F [120] hkx pa pn pc p wr hT.out.a.rep hT.out.a.ok (HRD.out.low hT.out.a.low) HPN.out (by omega) (fun h0 k hk hm => by have := HPL.out h0 k hk; have := hT.out.a.up k hm; omega)).mono ?_
        rintro e w6 ⟨rfl, ht⟩
        obtain ⟨F6, ht6⟩ := hT.out.step ht (fsAppend_ok hT.out.a.ok [120] p)
        rw [oneS_append] at ht6
        have T6 := hide ht6
        clear ht ht6 hT hcell
        have hcell := (T6.out.a.low.cell (p := ⟨bb, off + i, none⟩) hbb).trans HCELL.out
        go_wp2_with fail
        refine (fs_Append sb _ G [121] hky pa pn pc p w6 T6.out.b.rep T6.out.b.ok (HRD.out.low T6.out.a.low) HPN.out (by omega) (fun h0 k hk hm => by have := HPL.out h0 k hk; have := T6.out.b.up k hm; omega)).mono ?_
        rintro e w7 ⟨rfl, ht⟩
        obtain ⟨G7, ht7⟩ := T6.out.symm.step ht (fsAppend_ok T6.out.b.ok [121] p)
        rw [oneS_append] at ht7
        have T7 := hide ht7.symm
        clear ht ht7 T6 hcell
        have hw2 : IntKind.i64.wrap ((i : Int) + 1) = (i : Int) + 1 := wrap64 (by omega) (by omega)
        by_cases hsy : i < m
        · have i5 : (i : Int) < m := by omega
          go_wp2_with fail
          refine (fs_Sync sa _ F6 [120] hkx w7 T7.out.a.rep T7.out.a.ok).mono ?_
          rintro e w8 ⟨rfl, ht⟩
          obtain ⟨F8, ht8⟩ := T7.out.step ht (fsSync_ok T7.out.a.ok [120])
          rw [oneS_sync] at ht8
          have T8 := hide ht8
          clear ht ht8 T7
          go_wp2_with fail
          refine (fs_Sync sb _ G7 [121] hky w8 T8.out.b.rep T8.out.b.ok).mono ?_
          rintro e w9 ⟨rfl, ht⟩
          obtain ⟨G9, ht9⟩ := T8.out.symm.step ht (fsSync_ok T8.out.b.ok [121])
          rw [oneS_sync] at ht9
          have T9 := hide ht9.symm
          clear ht ht9 T8
          go_wp2
          refine ⟨⟨i + 1, _, _, F8, G9, by simp, hil, T9⟩, ?_⟩
          show l.length - ((i : Int) + 1).toNat < l.length - ((i : Nat) : Int).toNat
          omega
        · have i5 : ¬ ((i : Int) < m) := by omega
          go_wp2
          refine ⟨⟨i + 1, _, _, F6, G7, by simp, hil, T7⟩, ?_⟩
          show l.length - ((i : Int) + 1).toNat < l.length - ((i : Nat) : Int).toNat
          omega
    · have i0 : ¬ ((i : Int) < l.length) := by omega
      go_wp2_with fail
      refine (fs_Rename sa _ F [120] [121] hkx hky wr hT.out.a.rep hT.out.a.ok).mono ?_
      rintro e w6 ⟨rfl, ht⟩
      obtain ⟨F6, ht6⟩ := hT.out.step ht (fsRename_ok hT.out.a.ok [120] [121])
      rw [oneS_rename _ _ _ _ (by decide) (by decide)] at ht6 ⊢
      obtain ⟨S, hS⟩ : ∃ S, S = oneS [121] B P := ⟨_, rfl⟩
      rw [← hS] at ht6
      have T6 := hide ht6
      clear ht ht6 hT hS
      obtain ⟨e0, e1⟩ := hbc.out w6 T6.out.a.low
      go_wp2_with fail
      refine (fs_Waits sa S F6 w6 T6.out.a.rep).mono ?_
      rintro e w' ⟨rfl, rfl⟩
      go_wp2_with fail
      refine (fs_Crash sa S F6 a2 n2 c2 t2 K2 w6 T6.out.a.rep T6.out.a.ok (H2.out.low T6.out.a.low) HN2.out (by omega) (fun h0 k hk hm => by have := low2.out h0 k hk; have := T6.out.a.up k hm; omega) lo2 hi2).mono ?_
      rintro e w7 ⟨rfl, ht⟩
      obtain ⟨F7, ht7⟩ := T6.out.step ht (fsCrash_ok T6.out.a.ok K2 t2)
      have T7 := hide ht7
      clear ht ht7 T6 e0 e1
      obtain ⟨e0, e1⟩ := hbc.out w7 T7.out.a.low
      go_wp2_with fail
      refine (fs_Waits sb S G w7 T7.out.b.rep).mono ?_
      rintro e w' ⟨rfl, rfl⟩
      go_wp2_with fail
      refine (fs_Crash sb S G a2 n2 c2 t2 K2 w7 T7.out.b.rep T7.out.b.ok (H2.out.low T7.out.b.low) HN2.out (by omega) (fun h0 k hk hm => by have := low2.out h0 k hk; have := T7.out.b.up k hm; omega) lo2 hi2).mono ?_
      rintro e w8 ⟨rfl, ht⟩
      obtain ⟨G8, ht8⟩ := T7.out.symm.step ht (fsCrash_ok T7.out.b.ok K2 t2)
      have T8 := hide ht8.symm
      clear ht ht8 T7 e0 e1
      obtain ⟨X, hX⟩ : ∃ X, X = fsFiles (fsCrash S K2 t2) := ⟨_, rfl⟩
      have hX8 : X.length ≤ 8 := by rw [hX]; unfold fsFiles; rw [List.length_map]; exact T8.out.a.ok.few
      go_wp2_with fail
      refine (law_Files sa _ F7 w8 T8.out.a.rep T8.out.a.ok).mono ?_
      rintro e w9 ⟨a9, c9, L9, rfl, hf9, hc9, hb9⟩
      rw [← hX] at hf9 hc9 ⊢
      have HF9 := hide hf9; have HC9 := hide hc9
      have T9 := hide (T8.out.then hb9)
      clear hf9 hc9 hb9 T8
      go_wp2_with fail
      refine (law_Files sb _ G8 w9 T9.out.b.rep T9.out.b.ok).mono ?_
      rintro e w10 ⟨a10, c10, L10, rfl, hf10, hc10, hb10⟩
      rw [← hX] at hf10 hc10 ⊢
      obtain ⟨n, hn⟩ : ∃ n, n = X.length := ⟨_, rfl⟩
      rw [← hn] at HF9 hf10 hX8 ⊢
      have HF10 := hide hf10; have HC10 := hide hc10
      have T10 := hide (T9.out.then hb10)
      have HFF := hide (HF9.out.low hb10)
      have HN := hide hn
      clear hf10 hc10 hb10 T9 hX hn
      go_wp2_with fail
      refine (ref_SameFiles _ _ a9 a10 n c9 n c10 L9 L10 w10 HFF.out (by rw [HN.out, ← HC9.out, List.length_map]) HF10.out (by rw [HN.out, ← HC10.out, List.length_map]) (by omega) (by omega)).mono ?_
      rintro e w11 ⟨rfl, hb11⟩
      rw [HC9.out, HC10.out]
      have HB11 := hide (T10.out.a.low.trans (hb11.mono T10.out.a.low.size))
      clear hb11
      go_wp2
      go_ret
      exact ⟨by simp, HBB.out.trans (HB11.out.mono HBB.out.size)⟩
end Go.Proofs.Ytnlmoegdienhiaa
