/-
  The walk of FsLasts.
-/
import Derived.Test.YtnlmoegdienhiaaFsR
import Derived.Deep.DeepCutAuto
namespace Go.Proofs.Ytnlmoegdienhiaa
open Go.RowKit Go.Maps
set_option linter.unusedVariables false
set_option linter.unusedSimpArgs false

/-- files, and bytes of the call's own beside them -/
structure LsAt (WB wr : World) (sb : Nat) (s : FsS) (F : List Nat) (B : Bs) (P : List Bs) (aA : Option Addr) (nA cA : Nat) : Prop where
  own : FsOwn WB wr sb s F
  one : One [120] s B P
  len : nA = (B ++ P.flatten).length
  row : wr.ownsRow WB.heap.size 5 1 (.slice aA nA cA) nA (bcells (B ++ P.flatten))
  far : ∀ k, (Value.slice aA nA cA).ownBlock = some k → k ∉ F
theorem LsAt.step {WB wr wr' : World} {sb : Nat} {s s' : FsS} {F : List Nat} {B : Bs} {P : List Bs} {aA : Option Addr} {nA cA : Nat} (h : LsAt WB wr sb s F B P aA nA cA) (ht : FsTo wr sb F s' wr') (ok : s'.Ok) :
    ∃ F', FsOwn WB wr' sb s' F' ∧ wr'.ownsRow WB.heap.size 5 1 (.slice aA nA cA) nA (bcells (B ++ P.flatten)) ∧ (∀ k, (Value.slice aA nA cA).ownBlock = some k → k ∉ F') := by
  obtain ⟨F', h1, h2⟩ := h.own.step ht ok
  refine ⟨F', h1, ownsRow_same h.row fun k hk => h2.block k (h.row.lt k hk).2 (h.far k hk), fun k hk hm => ?_⟩
  rcases h2.fresh k hm with h3 | h3
  · exact h.far k hk h3
  · have := (h.row.lt k hk).2
    omega
theorem FsOwn.grown {W w w' : World} {sb : Nat} {s : FsS} {F : List Nat} {row : Option Nat} (h : FsOwn W w sb s F) (hg : w.grownBy w' row) (hr : ∀ k, row = some k → W.heap.size ≤ k ∧ k ∉ F) : FsOwn W w' sb s F :=
  ⟨h.rep.same (fun k hk => hg.block k (h.rep.lt k hk) fun e => (hr k e.symm).2 hk) hg.size, h.up, h.low.grown hg h.low.size fun k hk => (hr k hk).1, h.ok⟩

set_option maxRecDepth 100000 in
set_option maxHeartbeats 3200000 in
theorem law_FsLasts (W : World) (x0 : Value) (l : List Bs) (h0 : RdBs W x0 l) (u : UInt8) (a2 : Option Addr) (n2 c2 : Nat) (t2 : Int) (K2 : List Bool) (h2 : RdK W (.slice a2 n2 c2) K2) (hn2 : n2 = K2.length) (lo2 : -9223372036854775808 ≤ t2) (hi2 : t2 ≤ 9223372036854775807)
    (a3 : Option Addr) (n3 c3 : Nat) (t3 : Int) (K3 : List Bool) (h3 : RdK W (.slice a3 n3 c3) K3) (hn3 : n3 = K3.length) (lo3 : -9223372036854775808 ≤ t3) (hi3 : t3 ≤ 9223372036854775807) :
    Calls Try.prog 3 #[x0, .int .u8 (u.toNat : Int), .agg #[.slice a2 n2 c2, .int .i64 t2], .agg #[.slice a3 n3 c3, .int .i64 t3]] W fun e w' => e = .returned (.bool true) ∧ Below W.heap.size W w' := by
  obtain ⟨WB, hWB⟩ : ∃ WB, WB = (W.alloc (.cells #[.slice a2 n2 c2, .int .i64 t2] 25)).alloc (.cells #[.slice a3 n3 c3, .int .i64 t3] 25) := ⟨_, rfl⟩
  have hB1 := below_alloc W (.cells #[.slice a2 n2 c2, .int .i64 t2] 25)
  have hB2 := below_alloc (W.alloc (.cells #[.slice a2 n2 c2, .int .i64 t2] 25)) (.cells #[.slice a3 n3 c3, .int .i64 t3] 25)
  have hBB : Below W.heap.size W WB := by rw [hWB]; exact hB1.trans (hB2.mono (by simp))
  have hsz : WB.heap.size = W.heap.size + 2 := by rw [hWB]; simp
  have hb1 : WB.heap[W.heap.size]? = some (.cells #[.slice a2 n2 c2, .int .i64 t2] 25 (0, 0)) := by rw [hWB]; exact (hB2.block _ (by simp)).trans (heap_alloc_at _ _)
  have hb2 : WB.heap[W.heap.size + 1]? = some (.cells #[.slice a3 n3 c3, .int .i64 t3] 25 (0, 0)) := by
    rw [hWB]
    have := heap_alloc_at (W.alloc (.cells #[.slice a2 n2 c2, .int .i64 t2] 25)) (.cells #[.slice a3 n3 c3, .int .i64 t3] 25)
    simpa using this
  have HBB := hide hBB; have HSZ := hide hsz
  have H0 := hide (h0.low hBB); have H2 := hide (h2.low hBB); have H3 := hide (h3.low hBB)
  have HN2 := hide hn2; have HN3 := hide hn3
  have low2 : Hid (0 < n2 → ∀ k, (Value.slice a2 n2 c2).ownBlock = some k → k < WB.heap.size) := hide fun hp k hk => by
    obtain ⟨bb, off, cc, he, _, hb⟩ := RdK.at H2.out (k := 0) (by omega)
    simp only [Value.slice.injEq] at he
    obtain ⟨rfl, -⟩ := he
    simp only [Value.ownBlock, Option.some.injEq] at hk
    omega
  have low3 : Hid (0 < n3 → ∀ k, (Value.slice a3 n3 c3).ownBlock = some k → k < WB.heap.size) := hide fun hp k hk => by
    obtain ⟨bb, off, cc, he, _, hb⟩ := RdK.at H3.out (k := 0) (by omega)
    simp only [Value.slice.injEq] at he
    obtain ⟨rfl, -⟩ := he
    simp only [Value.ownBlock, Option.some.injEq] at hk
    omega
  have hbc : Hid (∀ w', Below WB.heap.size WB w' → w'.cell? ⟨W.heap.size, 0, none⟩ = some (.slice a2 n2 c2) ∧ w'.cell? ⟨W.heap.size, 1, none⟩ = some (.int .i64 t2) ∧ w'.cell? ⟨W.heap.size + 1, 0, none⟩ = some (.slice a3 n3 c3) ∧ w'.cell? ⟨W.heap.size + 1, 1, none⟩ = some (.int .i64 t3)) := hide fun w' hw => by
    have g1 := (hw.block _ (by omega)).trans hb1
    have g2 := (hw.block _ (by omega)).trans hb2
    simp [World.cell?, g1, g2]
  obtain ⟨a0, c0, rfl⟩ := h0.head
  obtain ⟨e0, e1, e2, e3⟩ := hbc.out WB (Below.refl _ _)
  clear h0 h2 h3 hn2 hn3 hB1 hB2 hBB hsz hb1 hb2
  by_cases big1 : 20 < l.length
  · have i1 : (20 : Int) < l.length := by omega
    go_enter Try.func3, Try.ntmps3
    go_upto_region 1 with fail
    rw [← hWB]
    clear hWB
    go_wp2_with (refine (fs_known _).mono ?_; rintro e w' ⟨rfl, hb⟩; have HB := hide hb; clear hb)
    go_ret
    exact ⟨rfl, HBB.out.trans (HB.out.mono HBB.out.size)⟩
  have i1 : ¬ ((20 : Int) < l.length) := by omega
  by_cases big2 : 60 < n2
  · have i2 : (60 : Int) < n2 := by omega
    go_enter Try.func3, Try.ntmps3
    go_upto_region 1 with fail
    rw [← hWB]
    clear hWB
    go_wp2_with (refine (fs_known _).mono ?_; rintro e w' ⟨rfl, hb⟩; have HB := hide hb; clear hb)
    go_ret
    exact ⟨rfl, HBB.out.trans (HB.out.mono HBB.out.size)⟩
  have i2 : ¬ ((60 : Int) < n2) := by omega
  by_cases big3 : 60 < n3
  · have i3 : (60 : Int) < n3 := by omega
    go_enter Try.func3, Try.ntmps3
    go_upto_region 1 with fail
    rw [← hWB]
    clear hWB
    go_wp2_with (refine (fs_known _).mono ?_; rintro e w' ⟨rfl, hb⟩; have HB := hide hb; clear hb)
    go_ret
    exact ⟨rfl, HBB.out.trans (HB.out.mono HBB.out.size)⟩
  have i3 : ¬ ((60 : Int) < n3) := by omega
  have hk : ([120] : Bs).length ≤ maxLen := by decide
  go_enter Try.func3, Try.ntmps3
  go_upto_region 1 with fail
  rw [← hWB]
  clear hWB
  go_wp2_with fail
  refine (fs_known _).mono ?_
  rintro e w1 ⟨rfl, hb1⟩
  have HB1 := hide hb1
  clear hb1
  go_wp2_with fail
  refine (fs_New' 10000 (by omega) (by omega) WB w1 HB1.out).mono ?_
  rintro e w2 ⟨sb, F0, rfl, hf0, _, _⟩
  have G0 := hide hf0
  clear hf0 HB1
  go_wp2_with fail
  refine (fs_Create sb _ F0 [120] hk w2 G0.out.rep G0.out.ok).mono ?_
  rintro e w3 ⟨rfl, ht⟩
  obtain ⟨F1, hf1, -⟩ := G0.out.step ht (fsCreate_ok G0.out.ok [120])
  obtain ⟨s1, hs1⟩ : ∃ s1, s1 = (fsCreate (fsNew 10000) [120]).2 := ⟨_, rfl⟩
  rw [← hs1] at hf1
  have hst : Hid (LsAt WB w3 sb s1 F1 [] [] none 0 0) := hide ⟨hf1, by rw [hs1]; exact one_new (by decide), rfl, World.ownsRow_nil _ _ _ _, fun k hk => by cases hk⟩
  clear hf1 ht G0 hs1 e0 e1 e2 e3
  go_wp2
  obtain ⟨m, hm⟩ : ∃ m : Nat, (u.toNat : Int).tmod 20 = (m : Int) := ⟨((u.toNat : Int).tmod 20).toNat, by have := Int.tmod_nonneg (20 : Int) (show (0 : Int) ≤ (u.toNat : Int) by omega); omega⟩
  have hm20 : m < 20 := by have := Int.tmod_lt_of_pos (u.toNat : Int) (show (0 : Int) < 20 by omega); omega
  have hmw : IntKind.i64.wrap (m : Int) = m := wrap64 (by omega) (by omega)
  go_loopw [10, 11, 12] (fun av nv iv wr => ∃ (i : Nat) (s : FsS) (F : List Nat) (B : Bs) (P : List Bs) (aA : Option Addr) (nA cA bn : Nat), iv = .int .i64 i ∧ i ≤ l.length ∧ nv = .int .i64 bn ∧ Hid (bn = B.length) ∧ av = .slice aA nA cA ∧ Hid (LsAt WB wr sb s F B P aA nA cA) ∧ Hid ((B ++ P.flatten).length ≤ 300 * i)) (fun _ _ iv _ => match iv with | .int _ j => l.length - j.toNat | _ => 0)
  case atStart => exact ⟨0, s1, F1, [], [], none, 0, 0, 0, rfl, Nat.zero_le _, rfl, hide rfl, rfl, hst, hide (by simp)⟩
  case round =>
    obtain ⟨i, s, F, B, P, aA, nA, cA, bn, rfl, hi, rfl, hbn, rfl, hls, hle⟩ := hrel
    clear hst
    by_cases hil : i < l.length
    · have i0 : (i : Int) < l.length := by omega
      obtain ⟨bb, off, cc, v, he, hcell, hrd, hbw⟩ := (H0.out.low hls.out.own.low).at hil
      simp only [Value.slice.injEq] at he
      obtain ⟨rfl, -, rfl⟩ := he
      obtain ⟨pa, pc, rfl⟩ := hrd.head
      obtain ⟨p, hp⟩ : ∃ p, p = l[i] := ⟨_, rfl⟩
      rw [← hp] at hrd hcell
      obtain ⟨pn, hpn⟩ : ∃ pn, pn = p.length := ⟨_, rfl⟩
      rw [← hpn] at hrd hcell
      have HRD := hide hrd
      have HPN := hide hpn
      have HCELL := hide hcell
      have hbb : bb < WB.heap.size := by
        obtain ⟨b9, o9, c9, v9, he, _, _, hb9⟩ := H0.out.at hil
        simp only [Value.slice.injEq, Option.some.injEq, Addr.mk.injEq] at he
        obtain ⟨⟨rfl, -, -⟩, -⟩ := he
        exact hb9
      have hc0 : Hid (WB.cell? ⟨bb, off + i, none⟩ = some (.slice pa pn pc)) := hide ((hls.out.own.low.cell (p := ⟨bb, off + i, none⟩) hbb).symm.trans hcell)
      have hrB : Hid (RdB WB (.slice pa pn pc) p) := hide (by
        obtain ⟨b9, o9, c9, v9, he, hc9, hr9, hb9⟩ := H0.out.at hil
        simp only [Value.slice.injEq, Option.some.injEq, Addr.mk.injEq] at he
        obtain ⟨⟨rfl, rfl, -⟩, -⟩ := he
        rw [hc0.out] at hc9
        simp only [Option.some.injEq] at hc9
        subst hc9
        rw [hp]
        exact hr9)
      have hplow : Hid (0 < pn → ∀ k, (Value.slice pa pn pc).ownBlock = some k → k < WB.heap.size) := hide fun h0 k hk => by
        obtain ⟨b9, o9, c9, he, _, hb9⟩ := RdB.at hrB.out (k := 0) (by have := HPN.out; omega)
        simp only [Value.slice.injEq] at he
        obtain ⟨rfl, -⟩ := he
        simp only [Value.ownBlock, Option.some.injEq] at hk
        omega
      clear hrd hpn hp
      by_cases hbig : 300 < pn
      · have i4 : (300 : Int) < pn := by omega
        go_wp2
        go_ret
        exact ⟨rfl, HBB.out.trans (hls.out.own.low.mono HBB.out.size)⟩
      · have i4 : ¬ ((300 : Int) < pn) := by omega
        go_wp2_with fail
        refine (fs_Append sb s F [120] hk pa pn pc p wr hls.out.own.rep hls.out.own.ok HRD.out HPN.out (by omega) (fun h0 k hk hm => by have := hplow.out h0 k hk; have := hls.out.own.up k hm; omega)).mono ?_
        rintro e w4 ⟨rfl, ht⟩
        have hlen2 : Hid (B.length + P.flatten.length + p.length ≤ 10000) := hide (by have h1 := hle.out; rw [List.length_append] at h1; have := HPN.out; omega)
        obtain ⟨F', hf4, hrow4, hfar4⟩ := hls.out.step ht (fsAppend_ok hls.out.own.ok [120] p)
        obtain ⟨P', hone, hPf⟩ := hls.out.one.append p hlen2.out
        obtain ⟨s', hs'⟩ : ∃ s', s' = (fsAppend s [120] p).2 := ⟨_, rfl⟩
        rw [← hs'] at hf4 hone
        have HF4 := hide hf4; have HROW := hide hrow4; have HFAR := hide hfar4; have HONE := hide hone; have HPF := hide hPf
        have hr4 := hide (hrB.out.low hf4.low)
        have hcell4 : w4.cell? ⟨bb, off + i, none⟩ = some (.slice pa pn pc) := (hf4.low.cell (p := ⟨bb, off + i, none⟩) hbb).trans hc0.out
        have HNL := hide hls.out.len
        clear ht hf4 hrow4 hfar4 hone hPf hs' hcell
        obtain ⟨A, hA⟩ : ∃ A, A = B ++ P.flatten := ⟨_, rfl⟩
        rw [← hA] at HROW HNL
        have HA := hide hA
        have hw2 : IntKind.i64.wrap ((i : Int) + 1) = (i : Int) + 1 := wrap64 (by omega) (by omega)
        have hAl : Hid (A.length + p.length ≤ 10000) := hide (by have := hlen2.out; rw [HA.out, List.length_append]; omega)
        clear hA
        by_cases hsy : i < m
        · have i5 : (i : Int) < m := by omega
          go_upto_region 16 with (at_builtin; refine wpList_copy_rd rfl _ _ 32 rfl WB.heap.size 5 Try.underlying32 (by kernel_rfl) _ A rfl (by rw [← HNL.out]; exact HROW.out) _ p rfl (by exact hr4.out) (by have := hAl.out; omega) HF4.out.low.size ?_; intro a5 q5 w5 hrow5 hg5 hloc5; obtain ⟨n5, hn5⟩ : ∃ n5, n5 = A.length + p.length := ⟨_, rfl⟩; rw [← hn5] at hrow5 hloc5 ⊢; have HR5 := hide hrow5; have HG5 := hide (show w4.grownBy w5 (Value.slice aA nA cA).ownBlock from hg5); have HL5 := hide (show (Value.slice a5 n5 q5).ownBlock = (Value.slice aA nA cA).ownBlock ∨ (Value.slice a5 n5 q5).ownBlock = some w4.heap.size from hloc5); have N5 := hide hn5; clear hrow5 hg5 hloc5 hn5 hcell4)
          have hls5 : Hid (LsAt WB w5 sb s' F' B P' a5 n5 q5) := hide (by
            have e : B ++ P'.flatten = A ++ p := by rw [HPF.out, HA.out, List.append_assoc]
            refine ⟨HF4.out.grown HG5.out fun k hk => ⟨(HROW.out.lt k hk).1, HFAR.out k hk⟩, HONE.out, by rw [e, List.length_append]; exact N5.out, ?_, fun k hk hm => ?_⟩
            · rw [e]
              have h1 := HR5.out
              rw [List.length_append, ← N5.out] at h1
              exact h1
            · rcases HL5.out with h1 | h1
              · exact HFAR.out k (by rw [← h1]; exact hk) hm
              · rw [h1] at hk
                simp only [Option.some.injEq] at hk
                subst hk
                have := HF4.out.rep.lt _ hm
                omega)
          have hle5 : Hid ((B ++ P'.flatten).length ≤ 300 * (i + 1)) := hide (by
            have h1 := hle.out
            have h2 := HPF.out
            have h3 := HPN.out
            rw [List.length_append] at h1 ⊢
            rw [h2, List.length_append]
            omega)
          clear HR5 HG5 HL5 hls hle
          go_wp2_with fail
          refine (fs_Sync sb s' F' [120] hk w5 hls5.out.own.rep hls5.out.own.ok).mono ?_
          rintro e w6 ⟨rfl, ht6⟩
          obtain ⟨F6, hf6, hrow6, hfar6⟩ := hls5.out.step ht6 (fsSync_ok hls5.out.own.ok [120])
          have hls6 : Hid (LsAt WB w6 sb (fsSync s' [120]).2 F6 (B ++ P'.flatten) [] a5 n5 q5) := hide ⟨hf6, hls5.out.one.sync, by simpa using hls5.out.len, by simpa using hrow6, hfar6⟩
          have hle6 : Hid ((B ++ P'.flatten ++ ([] : List Bs).flatten).length ≤ 300 * (i + 1)) := hide (by simpa using hle5.out)
          have hbn6 : Hid (n5 = (B ++ P'.flatten).length) := hide hls5.out.len
          clear ht6 hf6 hrow6 hfar6
          go_wp2
          refine ⟨⟨i + 1, _, F6, _, [], a5, n5, q5, n5, by simp, hil, rfl, hbn6, rfl, hls6, hle6⟩, ?_⟩
          show l.length - ((i : Int) + 1).toNat < l.length - ((i : Nat) : Int).toNat
          omega
        · have i5 : ¬ ((i : Int) < m) := by omega
          go_upto_region 16 with (at_builtin; refine wpList_copy_rd rfl _ _ 32 rfl WB.heap.size 5 Try.underlying32 (by kernel_rfl) _ A rfl (by rw [← HNL.out]; exact HROW.out) _ p rfl (by exact hr4.out) (by have := hAl.out; omega) HF4.out.low.size ?_; intro a5 q5 w5 hrow5 hg5 hloc5; obtain ⟨n5, hn5⟩ : ∃ n5, n5 = A.length + p.length := ⟨_, rfl⟩; rw [← hn5] at hrow5 hloc5 ⊢; have HR5 := hide hrow5; have HG5 := hide (show w4.grownBy w5 (Value.slice aA nA cA).ownBlock from hg5); have HL5 := hide (show (Value.slice a5 n5 q5).ownBlock = (Value.slice aA nA cA).ownBlock ∨ (Value.slice a5 n5 q5).ownBlock = some w4.heap.size from hloc5); have N5 := hide hn5; clear hrow5 hg5 hloc5 hn5 hcell4)
          have hls5 : Hid (LsAt WB w5 sb s' F' B P' a5 n5 q5) := hide (by
            have e : B ++ P'.flatten = A ++ p := by rw [HPF.out, HA.out, List.append_assoc]
            refine ⟨HF4.out.grown HG5.out fun k hk => ⟨(HROW.out.lt k hk).1, HFAR.out k hk⟩, HONE.out, by rw [e, List.length_append]; exact N5.out, ?_, fun k hk hm => ?_⟩
            · rw [e]
              have h1 := HR5.out
              rw [List.length_append, ← N5.out] at h1
              exact h1
            · rcases HL5.out with h1 | h1
              · exact HFAR.out k (by rw [← h1]; exact hk) hm
              · rw [h1] at hk
                simp only [Option.some.injEq] at hk
                subst hk
                have := HF4.out.rep.lt _ hm
                omega)
          have hle5 : Hid ((B ++ P'.flatten).length ≤ 300 * (i + 1)) := hide (by
            have h1 := hle.out
            have h2 := HPF.out
            have h3 := HPN.out
            rw [List.length_append] at h1 ⊢
            rw [h2, List.length_append]
            omega)
          clear HR5 HG5 HL5 hls hle
          go_wp2
          refine ⟨⟨i + 1, s', F', B, P', a5, n5, q5, bn, by simp, hil, rfl, hbn, rfl, hls5, hle5⟩, ?_⟩
          show l.length - ((i : Int) + 1).toNat < l.length - ((i : Nat) : Int).toNat
          omega
    · have i0 : ¬ ((i : Int) < l.length) := by omega
      obtain ⟨e0, e1, e2, e3⟩ := hbc.out wr hls.out.own.low
      go_wp2_with fail
      refine (fs_Crash sb s F a2 n2 c2 t2 K2 wr hls.out.own.rep hls.out.own.ok (H2.out.low hls.out.own.low) HN2.out (by omega) (fun h0 k hk hm => by have := low2.out h0 k hk; have := hls.out.own.up k hm; omega) lo2 hi2).mono ?_
      rintro e w4 ⟨rfl, ht⟩
      obtain ⟨F4, hf4, hrow4, hfar4⟩ := hls.out.step ht (fsCrash_ok hls.out.own.ok K2 t2)
      obtain ⟨Q, hone, hfit⟩ := hls.out.one.crash K2 t2
      obtain ⟨s4, hs4⟩ : ∃ s4, s4 = fsCrash s K2 t2 := ⟨_, rfl⟩
      rw [← hs4] at hf4 hone
      have HF4 := hide hf4; have HROW := hide hrow4; have HFAR := hide hfar4; have HONE := hide hone; have HFIT := hide hfit
      have HLEN := hide hls.out.len
      clear ht hf4 hrow4 hfar4 hone hfit hs4 e0 e1 e2 e3
      go_wp2_with fail
      refine (fs_Read sb s4 F4 [120] hk w4 HF4.out.rep HF4.out.ok).mono ?_
      rintro e w5 hr
      unfold ReadTold at hr
      rw [HONE.out.has, if_pos rfl, HONE.out.get] at hr
      obtain ⟨a5, n5, c5, rfl, hf5⟩ := hr
      simp only [List.flatten_nil, List.append_nil] at hf5
      have HF5 := hide (HF4.out.then hf5.2.2)
      have HROW5 := hide (ownsRow_below HROW.out hf5.2.2 (Nat.le_refl _))
      have HR5 := hide hf5
      clear hls
      obtain ⟨X, hX⟩ : ∃ X, X = B ++ Q := ⟨_, rfl⟩
      obtain ⟨A, hA⟩ : ∃ A, A = B ++ P.flatten := ⟨_, rfl⟩
      rw [← hX] at HR5 HONE
      rw [← hA] at HROW5 HLEN
      have hX1 : X.take B.length = B := by rw [hX, List.take_left' rfl]
      have hA1 : A.take B.length = B := by rw [hA, List.take_left' rfl]
      have hXB : bn ≤ n5 := by rw [HR5.out.2.1, hX, hbn.out, List.length_append]; omega
      have hXA : n5 ≤ nA := by rw [HR5.out.2.1, hX, HLEN.out, hA, List.length_append, List.length_append]; have := HFIT.out.1; omega
      have hfit : Hid (∀ (j : Nat) (q : UInt8), X[j]? = some q → bn ≤ j → q = 0 ∨ A[j]? = some q) := hide fun j q hq hj => by
        rw [hX, List.getElem?_append_right (by rw [← hbn.out]; exact hj)] at hq
        rw [hA, List.getElem?_append_right (by rw [← hbn.out]; exact hj)]
        exact HFIT.out.2 _ _ hq
      have hcx := HR5.out.cap
      have hca := (ownsRow_cap HROW5.out)
      have hrX := hide HR5.out.rd
      have hrA : Hid (RdB w5 (.slice aA nA cA) A) := hide (by
        have := ownsRow_rd HROW5.out
        unfold RdB
        rw [← HLEN.out]
        exact this)
      have hcutX : Hid (∀ w', Below w5.heap.size w5 w' → (a5 = none ∧ n5 = 0 ∧ c5 = 0 ∧ bn = 0 ∧ B = []) ∨ ∃ ad, a5 = some ad ∧ RdB w' (.slice (some ad) bn c5) B) := hide fun w' hw' => by
        rcases hrX.out.2 with ⟨h1, h2⟩ | ⟨ad, cc, h1, _⟩
        · simp only [Value.slice.injEq] at h1
          have hb0 : bn = 0 := by omega
          exact .inl ⟨h1.1, h1.2.1, h1.2.2, hb0, List.eq_nil_of_length_eq_zero (by rw [← hbn.out]; exact hb0)⟩
        · simp only [Value.slice.injEq] at h1
          obtain ⟨rfl, -⟩ := h1
          have h3 := (hrX.out.low hw').upto HR5.out.2.1 B.length c5 bn (by rw [hX1]; exact hbn.out)
          rw [hX1] at h3
          exact .inr ⟨ad, rfl, h3⟩
      have hcutA : Hid (∀ w', Below w5.heap.size w5 w' → (aA = none ∧ nA = 0 ∧ cA = 0 ∧ bn = 0 ∧ B = []) ∨ ∃ ad, aA = some ad ∧ RdB w' (.slice (some ad) bn cA) B) := hide fun w' hw' => by
        rcases hrA.out.2 with ⟨h1, h2⟩ | ⟨ad, cc, h1, _⟩
        · simp only [Value.slice.injEq] at h1
          have hb0 : bn = 0 := by omega
          exact .inl ⟨h1.1, h1.2.1, h1.2.2, hb0, List.eq_nil_of_length_eq_zero (by rw [← hbn.out]; exact hb0)⟩
        · simp only [Value.slice.injEq] at h1
          obtain ⟨rfl, -⟩ := h1
          have h3 := (hrA.out.low hw').upto HLEN.out B.length cA bn (by rw [hA1]; exact hbn.out)
          rw [hA1] at h3
          exact .inr ⟨ad, rfl, h3⟩
      have i5 : ¬ ((n5 : Int) < bn) := by omega
      have i6 : ¬ ((nA : Int) < n5) := by omega
      have i5' : decide ((n5 : Int) < bn) = false := decide_eq_false i5
      have i6' : decide ((nA : Int) < n5) = false := decide_eq_false i6
      have i5n : decide (n5 < bn) = false := decide_eq_false (by omega)
      have i6n : decide (nA < n5) = false := decide_eq_false (by omega)
      have i5m : ¬ (n5 < bn) := by omega
      have i6m : ¬ (nA < n5) := by omega
      have i7 : (bn : Int) ≤ c5 := by omega
      have i8 : (bn : Int) ≤ cA := by omega
      clear hX hA hX1 hA1 HFIT HROW
      go_upto_region 21 with fail
      go_cut [109] (fun v wx => v = .bool false ∧ Hid (Below w5.heap.size w5 wx))
      case first =>
        rcases hcutX.out w5 (Below.refl _ _) with ⟨rfl, rfl, rfl, rfl, rfl⟩ | ⟨ad, rfl, hq5⟩
        · rcases hcutA.out w5 (Below.refl _ _) with ⟨rfl, rfl, rfl, -, -⟩ | ⟨ad2, rfl, hqA⟩
          · clear i5n i6n i5m i6m i5 i6 i5' i6'
            go_wp2_with fail
            refine wp_region_three 26 155 (by kernel_rfl) (by kernel_rfl) rfl (by kernel_rfl) (fun D v w' => Below w5.heap.size w5 w') (fun _ => undef) (Below.refl _ _).drew ?_
            simp only [List.take_succ_cons, List.take_zero, List.drop_succ_cons, List.drop_zero]
            iterate 19 (refine Hav3.read (e := ?_) (fun v => by rfl) (fun D v w h => h) (fun D v w' hD hS => ?_) ?_; rotate_left; (skip; clear hS hD; first | (go_simp; done) | (go_simp; with_reducible rfl)); go_simp)
            iterate 1 (refine Hav3.read (e := ?_) (fun v => by rfl) (fun D v w h => h) (fun D v w' hD hS => ?_) ?_; rotate_left; (have v1 := convert_rd _ _ w' (RdB.nil w'); clear hS hD; first | (go_simp; done) | (go_simp; with_reducible rfl)); go_simp)
            iterate 3 (refine Hav3.read (e := ?_) (fun v => by rfl) (fun D v w h => h) (fun D v w' hD hS => ?_) ?_; rotate_left; (skip; clear hS hD; first | (go_simp; done) | (go_simp; with_reducible rfl)); go_simp)
            iterate 1 (refine Hav3.read (e := ?_) (fun v => by rfl) (fun D v w h => h) (fun D v w' hD hS => ?_) ?_; rotate_left; (have v1 := convert_rd _ _ w' (RdB.nil w'); clear hS hD; first | (go_simp; done) | (go_simp; with_reducible rfl)); go_simp)
            iterate 2 (refine Hav3.read (e := ?_) (fun v => by rfl) (fun D v w h => h) (fun D v w' hD hS => ?_) ?_; rotate_left; (skip; clear hS hD; first | (go_simp; done) | (go_simp; with_reducible rfl)); go_simp)
            refine Hav3.fin (fun v w' hS => ?_)
            have HS := hide hS
            clear hS
            go_wp2
            go_meet
            exact ⟨rfl, HS⟩
          · have HQA := hide hqA
            clear hqA
            go_wp2_with fail
            refine wp_region_three 26 155 (by kernel_rfl) (by kernel_rfl) rfl (by kernel_rfl) (fun D v w' => Below w5.heap.size w5 w') (fun _ => undef) (Below.refl _ _).drew ?_
            simp only [List.take_succ_cons, List.take_zero, List.drop_succ_cons, List.drop_zero]
            iterate 19 (refine Hav3.read (e := ?_) (fun v => by rfl) (fun D v w h => h) (fun D v w' hD hS => ?_) ?_; rotate_left; (skip; clear hS hD; first | (go_simp; done) | (go_simp; with_reducible rfl)); go_simp)
            iterate 1 (refine Hav3.read (e := ?_) (fun v => by rfl) (fun D v w h => h) (fun D v w' hD hS => ?_) ?_; rotate_left; (have v1 := convert_rd _ _ w' (RdB.nil w'); clear hS hD; first | (go_simp; done) | (go_simp; with_reducible rfl)); go_simp)
            iterate 3 (refine Hav3.read (e := ?_) (fun v => by rfl) (fun D v w h => h) (fun D v w' hD hS => ?_) ?_; rotate_left; (skip; clear hS hD; first | (go_simp; done) | (go_simp; with_reducible rfl)); go_simp)
            iterate 1 (refine Hav3.read (e := ?_) (fun v => by rfl) (fun D v w h => h) (fun D v w' hD hS => ?_) ?_; rotate_left; (have v1 := convert_rd _ _ w' (HQA.out.low hS); clear hS hD; first | (go_simp; done) | (go_simp; with_reducible rfl)); go_simp)
            iterate 2 (refine Hav3.read (e := ?_) (fun v => by rfl) (fun D v w h => h) (fun D v w' hD hS => ?_) ?_; rotate_left; (skip; clear hS hD; first | (go_simp; done) | (go_simp; with_reducible rfl)); go_simp)
            refine Hav3.fin (fun v w' hS => ?_)
            have HS := hide hS
            clear hS
            go_wp2
            go_meet
            exact ⟨rfl, HS⟩
        · have HQ5 := hide hq5
          clear hq5
          rcases hcutA.out w5 (Below.refl _ _) with ⟨rfl, rfl, rfl, rfl, rfl⟩ | ⟨ad2, rfl, hqA⟩
          · obtain rfl : n5 = 0 := by omega
            clear i5n i6n i5m i6m i5 i6 i5' i6'
            go_wp2_with fail
            refine wp_region_three 26 155 (by kernel_rfl) (by kernel_rfl) rfl (by kernel_rfl) (fun D v w' => Below w5.heap.size w5 w') (fun _ => undef) (Below.refl _ _).drew ?_
            simp only [List.take_succ_cons, List.take_zero, List.drop_succ_cons, List.drop_zero]
            iterate 19 (refine Hav3.read (e := ?_) (fun v => by rfl) (fun D v w h => h) (fun D v w' hD hS => ?_) ?_; rotate_left; (skip; clear hS hD; first | (go_simp; done) | (go_simp; with_reducible rfl)); go_simp)
            iterate 1 (refine Hav3.read (e := ?_) (fun v => by rfl) (fun D v w h => h) (fun D v w' hD hS => ?_) ?_; rotate_left; (have v1 := convert_rd _ _ w' (HQ5.out.low hS); clear hS hD; first | (go_simp; done) | (go_simp; with_reducible rfl)); go_simp)
            iterate 3 (refine Hav3.read (e := ?_) (fun v => by rfl) (fun D v w h => h) (fun D v w' hD hS => ?_) ?_; rotate_left; (skip; clear hS hD; first | (go_simp; done) | (go_simp; with_reducible rfl)); go_simp)
            iterate 1 (refine Hav3.read (e := ?_) (fun v => by rfl) (fun D v w h => h) (fun D v w' hD hS => ?_) ?_; rotate_left; (have v1 := convert_rd _ _ w' (RdB.nil w'); clear hS hD; first | (go_simp; done) | (go_simp; with_reducible rfl)); go_simp)
            iterate 2 (refine Hav3.read (e := ?_) (fun v => by rfl) (fun D v w h => h) (fun D v w' hD hS => ?_) ?_; rotate_left; (skip; clear hS hD; first | (go_simp; done) | (go_simp; with_reducible rfl)); go_simp)
            refine Hav3.fin (fun v w' hS => ?_)
            have HS := hide hS
            clear hS
            go_wp2
            go_meet
            exact ⟨rfl, HS⟩
          · have HQA := hide hqA
            clear hqA
            go_wp2_with fail
            refine wp_region_three 26 155 (by kernel_rfl) (by kernel_rfl) rfl (by kernel_rfl) (fun D v w' => Below w5.heap.size w5 w') (fun _ => undef) (Below.refl _ _).drew ?_
            simp only [List.take_succ_cons, List.take_zero, List.drop_succ_cons, List.drop_zero]
            iterate 19 (refine Hav3.read (e := ?_) (fun v => by rfl) (fun D v w h => h) (fun D v w' hD hS => ?_) ?_; rotate_left; (skip; clear hS hD; first | (go_simp; done) | (go_simp; with_reducible rfl)); go_simp)
            iterate 1 (refine Hav3.read (e := ?_) (fun v => by rfl) (fun D v w h => h) (fun D v w' hD hS => ?_) ?_; rotate_left; (have v1 := convert_rd _ _ w' (HQ5.out.low hS); clear hS hD; first | (go_simp; done) | (go_simp; with_reducible rfl)); go_simp)
            iterate 3 (refine Hav3.read (e := ?_) (fun v => by rfl) (fun D v w h => h) (fun D v w' hD hS => ?_) ?_; rotate_left; (skip; clear hS hD; first | (go_simp; done) | (go_simp; with_reducible rfl)); go_simp)
            iterate 1 (refine Hav3.read (e := ?_) (fun v => by rfl) (fun D v w h => h) (fun D v w' hD hS => ?_) ?_; rotate_left; (have v1 := convert_rd _ _ w' (HQA.out.low hS); clear hS hD; first | (go_simp; done) | (go_simp; with_reducible rfl)); go_simp)
            iterate 2 (refine Hav3.read (e := ?_) (fun v => by rfl) (fun D v w h => h) (fun D v w' hD hS => ?_) ?_; rotate_left; (skip; clear hS hD; first | (go_simp; done) | (go_simp; with_reducible rfl)); go_simp)
            refine Hav3.fin (fun v w' hS => ?_)
            have HS := hide hS
            clear hS
            go_wp2
            go_meet
            exact ⟨rfl, HS⟩
      case rest =>
        obtain ⟨rfl, hb⟩ := hcut
        clear i5 i6 i5' i6' i5n i6n i5m i6m i7 i8 hcutX hcutA
        go_wp2
        go_loopw [15] (fun jv wr => ∃ j : Nat, jv = .int .i64 j ∧ bn ≤ j ∧ j ≤ n5 ∧ Hid (Below w5.heap.size w5 wr)) (fun jv _ => match jv with | .int _ j => n5 - j.toNat | _ => 0)
        case atStart => exact ⟨bn, rfl, Nat.le_refl _, hXB, hb⟩
        case round =>
          obtain ⟨j, rfl, hj1, hj2, hbj⟩ := hrel
          by_cases hj : j < n5
          · have k0 : (j : Int) < n5 := by omega
            have hxl : j < X.length := by rw [← HR5.out.2.1]; exact hj
            have hal : j < A.length := by rw [← HLEN.out]; omega
            obtain ⟨gx, ox, qx, he, hcx1, hbx1⟩ := (hrX.out.low hbj.out).at hxl
            simp only [Value.slice.injEq] at he
            obtain ⟨rfl, -⟩ := he
            obtain ⟨ga, oa, qa, he, hca1, hba1⟩ := (hrA.out.low hbj.out).at hal
            simp only [Value.slice.injEq] at he
            obtain ⟨rfl, -⟩ := he
            have hn1 : (j : Int) < nA := by omega
            have hjw : IntKind.i64.wrap ((j : Int) + 1) = (j : Int) + 1 := wrap64 (by omega) (by have := HR5.out.cap; omega)
            have hor := hfit.out j X[j] (List.getElem?_eq_getElem hxl) hj1
            rw [List.getElem?_eq_getElem hal] at hor
            simp only [Option.some.injEq] at hor
            obtain ⟨xa, hxa⟩ : ∃ xa, xa = (X[j]).toNat := ⟨_, rfl⟩
            obtain ⟨ya, hya⟩ : ∃ ya, ya = (A[j]).toNat := ⟨_, rfl⟩
            have hor2 : xa = 0 ∨ xa = ya := by
              rcases hor with h1 | h1
              · left; rw [hxa, h1]; rfl
              · right; rw [hxa, hya, h1]
            rw [← hxa] at hcx1
            rw [← hya] at hca1
            clear hor hxa hya hxl hal
            have HCX := hide ((hbj.out.cell (p := ⟨gx, ox + j, none⟩) (by
              have := (HR5.out.ge gx rfl).2; exact this)).symm.trans hcx1)
            have HCA := hide ((hbj.out.cell (p := ⟨ga, oa + j, none⟩) (by
              have := (HROW5.out.lt ga rfl).2; exact this)).symm.trans hca1)
            have hcells : Hid (∀ w', Below wr.heap.size wr w' → w'.cell? ⟨gx, ox + j, none⟩ = some (.int .u8 xa) ∧ w'.cell? ⟨ga, oa + j, none⟩ = some (.int .u8 ya)) := hide fun w' hw' => by
              have h1 := hbj.out.trans (hw'.mono hbj.out.size)
              exact ⟨(h1.cell (p := ⟨gx, ox + j, none⟩) (HR5.out.ge gx rfl).2).trans HCX.out, (h1.cell (p := ⟨ga, oa + j, none⟩) (HROW5.out.lt ga rfl).2).trans HCA.out⟩
            clear hcx1 hca1 hbx1 hba1
            by_cases hxy : xa = ya
            · subst hxy
              clear hor2
              go_wp2_with fail
              refine wp_region_three 16 155 (by kernel_rfl) (by kernel_rfl) rfl (by kernel_rfl) (fun D v w' => Below wr.heap.size wr w') (fun _ => undef) (Below.refl _ _).drew ?_
              simp only [List.take_succ_cons, List.take_zero, List.drop_succ_cons, List.drop_zero]
              iterate 10 (refine Hav3.read (e := ?_) (fun v => by rfl) (fun D v w h => h) (fun D v w' hD hS => ?_) ?_; rotate_left; (obtain ⟨x0, x1⟩ := hcells.out w' hS; clear hS hD; first | (go_simp; done) | (go_simp; with_reducible rfl)); go_simp)
              iterate 5 (refine Hav3.skip (fun v => by rfl) (fun D v w h => h) ?_; go_simp)
              iterate 1 (refine Hav3.read (e := ?_) (fun v => by rfl) (fun D v w h => h) (fun D v w' hD hS => ?_) ?_; rotate_left; (skip; clear hS hD; first | (go_simp; done) | (go_simp; with_reducible rfl)); go_simp)
              refine Hav3.fin (fun v w' hS => ?_)
              have HS := hide (hbj.out.trans (hS.mono hbj.out.size))
              clear hS
              go_wp2
              exact ⟨⟨j + 1, by simp, by omega, by omega, HS⟩, by show n5 - ((j : Int) + 1).toNat < n5 - ((j : Nat) : Int).toNat; omega⟩
            · obtain rfl : xa = 0 := by omega
              clear hor2
              have y0 : ¬ (0 = ya) := hxy
              have y1 : ¬ ((0 : Int) = ya) := by omega
              have y2 : ((0 : Int) == ya) = false := by simpa using y1
              have y3 : ((0 : Int) != ya) = true := by simp [bne, y2]
              have y4 : (0 == ya) = false := by simpa using y0
              have y5 : (0 != ya) = true := by simp [bne, y4]
              have y6 : ¬ (ya = 0) := fun e => y0 e.symm
              have y7 : decide ((0 : Int) = ya) = false := decide_eq_false y1
              have y8 : decide (0 = ya) = false := decide_eq_false y0
              go_wp2_with fail
              refine wp_region_three 16 155 (by kernel_rfl) (by kernel_rfl) rfl (by kernel_rfl) (fun D v w' => Below wr.heap.size wr w') (fun _ => undef) (Below.refl _ _).drew ?_
              simp only [List.take_succ_cons, List.take_zero, List.drop_succ_cons, List.drop_zero]
              iterate 16 (refine Hav3.read (e := ?_) (fun v => by rfl) (fun D v w h => h) (fun D v w' hD hS => ?_) ?_; rotate_left; (obtain ⟨x0, x1⟩ := hcells.out w' hS; clear hS hD; first | (go_simp; done) | (go_simp; with_reducible rfl)); go_simp)
              refine Hav3.fin (fun v w' hS => ?_)
              have HS := hide (hbj.out.trans (hS.mono hbj.out.size))
              clear hS
              go_wp2
              exact ⟨⟨j + 1, by simp, by omega, by omega, HS⟩, by show n5 - ((j : Int) + 1).toNat < n5 - ((j : Nat) : Int).toNat; omega⟩
          · have k0 : ¬ ((j : Int) < n5) := by omega
            obtain rfl : j = n5 := by omega
            have HFR := hide (HF5.out.then hbj.out)
            have hrX2 := hide (hrX.out.low hbj.out)
            have hfarX : Hid (∀ k, (Value.slice a5 j c5).ownBlock = some k → k ∉ F4) := hide fun k hk hm => by
              have h1 := (HR5.out.ge k hk).1
              have h2 := HF4.out.rep.lt k hm
              omega
            obtain ⟨e0, e1, e2, e3⟩ := hbc.out wr HFR.out.low
            clear hfit k0
            go_wp2_with fail
            refine (fs_Crash sb s4 F4 a3 n3 c3 t3 K3 wr HFR.out.rep HFR.out.ok (H3.out.low HFR.out.low) HN3.out (by omega) (fun h0 k hk hm => by have := low3.out h0 k hk; have := HFR.out.up k hm; omega) lo3 hi3).mono ?_
            rintro e w7 ⟨rfl, ht7⟩
            obtain ⟨F7, hf7, hc7⟩ := HFR.out.step ht7 (fsCrash_ok HFR.out.ok K3 t3)
            have hone7 := HONE.out.crash0 K3 t3
            obtain ⟨s7, hs7⟩ : ∃ s7, s7 = fsCrash s4 K3 t3 := ⟨_, rfl⟩
            rw [← hs7] at hf7 hone7
            have HF7 := hide hf7; have HONE7 := hide hone7
            have hrX3 := hide (hrX2.out.chg hc7 hfarX.out)
            clear ht7 hf7 hc7 hone7 hs7 e0 e1 e2 e3
            go_wp2_with fail
            refine (fs_Read sb s7 F7 [120] hk w7 HF7.out.rep HF7.out.ok).mono ?_
            rintro e w8 hr
            unfold ReadTold at hr
            rw [HONE7.out.has, if_pos rfl, HONE7.out.get] at hr
            obtain ⟨a8, n8, c8, rfl, hf8⟩ := hr
            simp only [List.flatten_nil, List.append_nil] at hf8
            have HF8 := hide (HF7.out.then hf8.2.2)
            have v1 := convert_rd X _ w8 hf8.rd
            have v2 := convert_rd X _ w8 (hrX3.out.low hf8.2.2)
            have hwt : Hid (s7.waits.length = 0) := hide (by rw [HONE7.out.waits]; rfl)
            clear hf8
            go_wp2_with (refine (fs_Waits sb s7 F7 w8 HF8.out.rep).mono ?_; rintro e w9 ⟨rfl, rfl⟩; rw [hwt.out])
            go_ret
            exact ⟨rfl, HBB.out.trans (HF8.out.low.mono HBB.out.size)⟩
end Go.Proofs.Ytnlmoegdienhiaa
