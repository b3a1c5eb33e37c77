/-
  The walk of TapeLasts.
-/
import Derived.Test.YtglgjakjhkdoaaaDoorTaR
namespace Go.Proofs.YtglgjakjhkdoaaaDoor
open Go.RowKit Go.Maps
set_option linter.unusedVariables false
set_option linter.unusedSimpArgs false

theorem tmod9 (y : Nat) : ((y : Int)).tmod 9 = ((y % 9 : Nat) : Int) := by rw [Int.tmod_eq_emod_of_nonneg (by omega)]; omega
theorem tmod8 (y : Nat) : ((y : Int)).tmod 8 = ((y % 8 : Nat) : Int) := by rw [Int.tmod_eq_emod_of_nonneg (by omega)]; omega

theorem Ls.low {WB w w' : World} {sb tb : Nat} {s : FsS} {F : List Nat} {D M : List Bs} {av wv : Value} {A Wl : List Bs} {sure sw : Nat} (h : Ls WB w sb tb s F D M av A wv Wl sure sw) (hb : Below w.heap.size w w') : Ls WB w' sb tb s F D M av A wv Wl sure sw :=
  ⟨h.own.then hb, h.blk.low hb, h.tn, h.st, h.jn, h.all.low hb, h.was.low hb, h.live, h.dead⟩

set_option maxRecDepth 100000 in
set_option maxHeartbeats 3200000 in
theorem law_TapeLasts (W : World) (v0 : Value) (L : List Opt) (h : RdOpts W v0 L) (u : UInt8) (a2 : Option Addr) (n2 c2 : Nat) (t2 : Int) (K2 : List Bool) (h2 : RdK W (.slice a2 n2 c2) K2) (hn2 : n2 = K2.length) (lo2 : -9223372036854775808 ≤ t2) (hi2 : t2 ≤ 9223372036854775807) (u3 : UInt8)
    (a4 : Option Addr) (n4 c4 : Nat) (t4 : Int) (K4 : List Bool) (h4 : RdK W (.slice a4 n4 c4) K4) (hn4 : n4 = K4.length) (lo4 : -9223372036854775808 ≤ t4) (hi4 : t4 ≤ 9223372036854775807) :
    Calls Tryd.prog 6 #[v0, .int .u8 (u.toNat : Int), .agg #[.slice a2 n2 c2, .int .i64 t2], .int .u8 (u3.toNat : Int), .agg #[.slice a4 n4 c4, .int .i64 t4]] W fun e w' => e = .returned (.bool true) ∧ Below W.heap.size W w' := by
  obtain ⟨a0, c0, rfl⟩ := h.head
  obtain ⟨n, hn⟩ : ∃ n, n = L.length := ⟨_, rfl⟩
  rw [← hn]
  obtain ⟨y, hy⟩ : ∃ y, y = u.toNat := ⟨_, rfl⟩
  have hy2 : y < 256 := by rw [hy]; exact u.toNat_lt
  rw [← hy]
  obtain ⟨y3, hy3⟩ : ∃ y, y = u3.toNat := ⟨_, rfl⟩
  have hy32 : y3 < 256 := by rw [hy3]; exact u3.toNat_lt
  rw [← hy3]
  obtain ⟨WA, hWA⟩ : ∃ WA, WA = W.alloc (.cells #[.slice a2 n2 c2, .int .i64 t2] 27) := ⟨_, rfl⟩
  obtain ⟨hBA, hszA, hbcA⟩ := loss_box WA hWA
  obtain ⟨WB, hWB⟩ : ∃ WB, WB = WA.alloc (.cells #[.slice a4 n4 c4, .int .i64 t4] 27) := ⟨_, rfl⟩
  obtain ⟨hBB0, hszB, hbcB⟩ := loss_box WB hWB
  have hBB := hBA.trans (hBB0.mono hBA.size)
  rw [hszA] at hbcB
  have hbc : Hid (∀ w', Below WB.heap.size WB w' → (w'.cell? ⟨W.heap.size, 0, none⟩ = some (.slice a2 n2 c2) ∧ w'.cell? ⟨W.heap.size, 1, none⟩ = some (.int .i64 t2)) ∧ w'.cell? ⟨W.heap.size + 1, 0, none⟩ = some (.slice a4 n4 c4) ∧ w'.cell? ⟨W.heap.size + 1, 1, none⟩ = some (.int .i64 t4)) := hide fun w' hw => ⟨hbcA w' (hBB0.trans (hw.mono hBB0.size)), hbcB w' hw⟩
  have HBB := hide hBB
  have HN := hide hn; have H := hide (h.low hBB)
  have H2 := hide (h2.low hBB); have H4 := hide (h4.low hBB)
  have HN2 := hide hn2; have HN4 := hide hn4
  have low2 := hide (H2.out.lowK hn2); have low4 := hide (H4.out.lowK hn4)
  obtain ⟨⟨b0, b1⟩, b2, b3⟩ := hbc.out WB (Below.refl _ _)
  have hk : ([106] : Bs).length ≤ maxLen := by decide
  have hnk : named [106] = true := by decide
  clear h h2 h4 hn hn2 hn4 hBA hszA hbcA hBB0 hszB hbcB hBB hy hy3
  go_enter Tryd.func6, Tryd.ntmps6
  go_upto_region 1 with fail
  rw [← hWA, ← hWB]
  clear hWA hWB
  go_wp2_with fail
  refine (tp_heavy _ L WB (by have := H.out; rw [← HN.out] at *; exact this)).mono ?_
  rintro e w1 ⟨rfl | ⟨rfl, h30, hlight⟩, rfl⟩
  · go_wp2_with (refine (tp_known _).mono ?_; rintro e w' ⟨rfl, hb⟩; have HB := hide hb; clear hb)
    go_ret
    exact ⟨rfl, HBB.out.trans (HB.out.mono HBB.out.size)⟩
  have hn30 : n ≤ 30 := by rw [HN.out]; exact h30
  have HLI := hide hlight
  clear h30 hlight
  by_cases big2 : 60 < n2
  · have d2 : decide ((60 : Int) < n2) = true := decide_eq_true (by omega)
    go_wp2_with (refine (tp_known _).mono ?_; rintro e w' ⟨rfl, hb⟩; have HB := hide hb; clear hb)
    go_ret
    exact ⟨rfl, HBB.out.trans (HB.out.mono HBB.out.size)⟩
  have d2 : decide ((60 : Int) < n2) = false := decide_eq_false (by omega)
  by_cases big4 : 60 < n4
  · have d4 : decide ((60 : Int) < n4) = true := decide_eq_true (by omega)
    go_wp2_with (refine (tp_known _).mono ?_; rintro e w' ⟨rfl, hb⟩; have HB := hide hb; clear hb)
    go_ret
    exact ⟨rfl, HBB.out.trans (HB.out.mono HBB.out.size)⟩
  have d4 : decide ((60 : Int) < n4) = false := decide_eq_false (by omega)
  go_wp2_with fail
  refine (tp_known _).mono ?_
  rintro e w1 ⟨rfl, hb1⟩
  have HB1 := hide hb1
  clear hb1
  obtain ⟨iS, hiS, hyS0, hyS1, hyS2⟩ := info_parts sl8_info
  go_wp2_with fail
  refine (fs_New' 20000 (by omega) (by omega) WB w1 HB1.out).mono ?_
  rintro e w2 ⟨sb, F0, rfl, hf0, _, _⟩
  have HF0 := hide hf0
  clear hf0 HB1
  go_wp2_with fail
  refine (tp_open_own HF0.out hk (open_new 20000 [106] hnk (by decide) (by decide))).mono ?_
  rintro e w3 ⟨F1, tb, m0, ga, gc, gxs, rfl, -, hO1, -, hblk, -, htn, -, -, -⟩
  have HO1 := hide hO1; have HBLK := hide hblk; have HTN := hide htn
  clear hO1 hblk htn HF0
  have hwy : IntKind.i64.wrap (y : Int) = y := wrap64 (by omega) (by omega)
  go_wp2_with fail
  refine (fs_Halt sb _ F1 (y : Int) w3 HO1.out.rep).mono ?_
  rintro e w4 ⟨rfl, ht⟩
  obtain ⟨F2, hO2, hC2⟩ := HO1.out.step ht (fsHalt_ok HO1.out.ok _ (by omega))
  obtain ⟨s2, hs2⟩ : ∃ t, t = fsHalt ⟨20000, [([106], [])], [], none, false⟩ y := ⟨_, rfl⟩
  rw [← hs2] at hO2
  have hst : Hid (Ls WB w4 sb tb s2 F2 [] [] (.slice none 0 0) [] (.slice none 0 0) [] 0 0) := hide ⟨hO2, HBLK.out.chg hC2 HTN.out, (fun hm => (hC2.fresh _ hm).elim HTN.out (by have := HBLK.out.lt; omega)), (by rw [hs2]; intro h; cases h), by rw [hs2]; exact ⟨by simp [fsHalt, mget], rfl, by simp, by simp⟩, NtAt.nil _ _ _, NtAt.nil _ _ _, fun _ => ⟨rfl, Nat.zero_le _⟩, fun _ => ⟨rfl, Nat.zero_le _⟩⟩
  clear ht hO2 hC2 hs2 HO1 HBLK HTN b0 b1 b2 b3
  go_upto_block 0 with fail
  go_cut [15, 16, 17, 18] (fun av wv uv xv wx => ∃ (s : FsS) (F : List Nat) (D M A Wl : List Bs) (aa wa : Option Addr) (an ac wn wq sure sw : Nat), av = .slice aa an ac ∧ wv = .slice wa wn wq ∧ uv = .int .i64 sure ∧ xv = .int .i64 sw ∧ an ≤ 50 ∧ wn ≤ 50 ∧ Hid (an = A.length) ∧ Hid (wn = Wl.length) ∧ Hid (Ls WB wx sb tb s F D M (.slice aa an ac) A (.slice wa wn wq) Wl sure sw))
  case first =>
    go_wp2_with fail
    go_loopw [15, 16, 17, 18, 19] (fun av wv uv xv iv wr => ∃ (i : Nat) (s : FsS) (F : List Nat) (D M A Wl : List Bs) (aa wa : Option Addr) (an ac wn wq sure sw : Nat), iv = .int .i64 i ∧ i ≤ n ∧ av = .slice aa an ac ∧ wv = .slice wa wn wq ∧ uv = .int .i64 sure ∧ xv = .int .i64 sw ∧ an ≤ 10 + i ∧ wn ≤ 50 ∧ Hid (an = A.length) ∧ Hid (wn = Wl.length) ∧ Hid (Ls WB wr sb tb s F D M (.slice aa an ac) A (.slice wa wn wq) Wl sure sw)) (fun _ _ _ _ iv _ => match iv with | .int _ j => n - j.toNat | _ => 0)
    case atStart => exact ⟨0, s2, F2, [], [], [], [], none, none, 0, 0, 0, 0, 0, 0, rfl, Nat.zero_le _, rfl, rfl, rfl, rfl, Nat.zero_le _, Nat.zero_le _, hide rfl, hide rfl, hst⟩
    case round =>
      obtain ⟨i, s, F, D, M, A, Wl, aa, wa, an, ac, wn, wq, sure, sw, rfl, hi, rfl, rfl, rfl, rfl, han, hwn, hA, hW, hls⟩ := hrel
      clear hst
      by_cases hil : i < n
      case neg =>
        have i0 : decide ((i : Int) < n) = false := decide_eq_false (by omega)
        go_wp2
        go_meet
        exact ⟨s, F, D, M, A, Wl, aa, wa, an, ac, wn, wq, sure, sw, rfl, rfl, rfl, rfl, by omega, hwn, hA, hW, hls⟩
      have i0 : decide ((i : Int) < n) = true := by simpa using hil
      have hwi : IntKind.i64.wrap ((i : Int) + 1) = (i : Int) + 1 := wrap64 (by omega) (by omega)
      obtain ⟨wb, hwb⟩ : ∃ wb, wb = wr := ⟨_, rfl⟩
      obtain ⟨hh, hhh⟩ : ∃ b, b = s.halted := ⟨_, rfl⟩
      have HH := hide hhh
      clear hhh
      go_wp2_with fail
      refine (fs_Halted sb s F wr hls.out.own.rep).mono ?_
      rintro e w5 ⟨rfl, rfl⟩
      rw [← HH.out]
      cases hh with
      | true =>
        go_wp2
        go_meet
        exact ⟨s, F, D, M, A, Wl, aa, wa, an, ac, wn, wq, sure, sw, rfl, rfl, rfl, rfl, by omega, hwn, hA, hW, hls⟩
      | false =>
        have hlv : s.halted = false := HH.out.symm
        obtain ⟨bb, off, cc, o, he, hLo, hbb, hok, c0, c1, c2, c3, c4, c5⟩ := H.out.at (i := i) (by have := HN.out; omega)
        rw [← HN.out] at he
        simp only [Value.slice.injEq] at he
        obtain ⟨rfl, -, rfl⟩ := he
        have HLV := hide hlv; have HOK := hide hok
        have hlo := hide (HLI.out o (by rw [← hLo]; exact List.getElem_mem (by have := HN.out; omega)))
        have hlw := hls.out.own.low
        have g0 := (hlw.cell (p := ⟨bb, _, none⟩) hbb).trans c0
        have g1 := (hlw.cell (p := ⟨bb, _, none⟩) hbb).trans c1
        have g2 := (hlw.cell (p := ⟨bb, _, none⟩) hbb).trans c2
        have g3 := (hlw.cell (p := ⟨bb, _, none⟩) hbb).trans c3
        have g4 := (hlw.cell (p := ⟨bb, _, none⟩) hbb).trans c4
        have g5 := (hlw.cell (p := ⟨bb, _, none⟩) hbb).trans c5
        clear c0 c1 c2 c3 c4 c5 hlv hok hLo hlw HH
        go_upto_region 16 with fail
        obtain ⟨W1, hW1⟩ : ∃ W1, W1 = wr.alloc (.cells o.cells.toArray 29) := ⟨_, rfl⟩
        have hg := heap_alloc_at wr (.cells o.cells.toArray 29)
        have hbW := below_alloc wr (.cells o.cells.toArray 29)
        rw [← hW1] at hg hbW
        have hW2 : wr.alloc (.cells #[.int .u8 o.kind, .slice o.ba o.bn o.bc, .slice o.la o.ln o.lc, .int .u8 o.num, .slice o.ka o.kn o.kc, .int .i64 o.t] 29) = W1 := hW1.symm
        rw [hW2]
        have hl1 := hide (hls.out.low hbW)
        have hoF : wr.heap.size ∉ F := fun hm => by have := hls.out.own.rep.lt _ hm; omega
        have hob : Hid (∀ w' F', Chg F F' W1 w' → w'.cell? ⟨wr.heap.size, 0, none⟩ = some (.int .u8 o.kind) ∧ w'.cell? ⟨wr.heap.size, 1, none⟩ = some (.slice o.ba o.bn o.bc) ∧ w'.cell? ⟨wr.heap.size, 2, none⟩ = some (.slice o.la o.ln o.lc)) := hide fun w' F' hc => by
          have h1 := (hc.block wr.heap.size (Array.getElem?_eq_some_iff.1 hg).1 hoF).trans hg
          simp [World.cell?, h1, Opt.cells]
        obtain ⟨f0, f1, f2⟩ := hob.out W1 F (Chg.refl _ _)
        obtain ⟨ob, hobE⟩ : ∃ ob, ob = wr.heap.size := ⟨_, rfl⟩
        rw [← hobE] at hob f0 f1 f2 ⊢
        clear hg hbW hW1 hW2 hoF g0 g1 g2 g3 g4 g5 hls hobE hwb
        have hlive := hide (hl1.out.live HLV.out)
        have hmod := tmod9 o.kind
        obtain ⟨m, hm⟩ : ∃ m, m = o.kind % 9 := ⟨_, rfl⟩
        rw [← hm] at hmod
        have hm9 : m < 9 := by omega
        have hwm : IntKind.u8.wrap (m : Int) = m := by rw [IntKind.wrap_u8]; omega
        clear hm
        by_cases hm4 : m = 4
        · subst hm4
          have hmod : (o.kind : Int).tmod 9 = 4 := hmod
          have e0 : (fsSync s [106]).1 = 0 := by unfold fsSync; rw [if_neg (by rw [hl1.out.jn.has]; simp)]
          have hst' := (sync_lh s [106]).st hl1.out.st
          have hok' := fsSync_ok hl1.out.own.ok [106]
          have hla := hl1.out.jn.lasts HLV.out
          go_wp2_with fail
          refine (tp_Sync tb sb s F [106] (by decide) W1 hl1.out.blk hl1.out.own.rep hl1.out.own.ok).mono ?_
          rintro e w6 ⟨rfl, ht⟩
          obtain ⟨F6, hO6, hC6⟩ := hl1.out.own.step ht hok'
          rw [e0]
          obtain ⟨s6, hs6⟩ : ∃ t, t = (fsSync s [106]).2 := ⟨_, rfl⟩
          rw [← hs6] at hO6 hla hst'
          have HO6 := hide hO6; have HC6 := hide hC6; have HLA := hide hla; have HST := hide hst'
          clear ht hs6 e0 hok' hO6 hC6 hla hst'
          obtain ⟨hh6, hhh6⟩ : ∃ b, b = s6.halted := ⟨_, rfl⟩
          have HH6 := hide hhh6
          clear hhh6
          go_wp2_with fail
          refine (fs_Halted sb s6 F6 w6 HO6.out.rep).mono ?_
          rintro e w7 ⟨rfl, rfl⟩
          rw [← HH6.out]
          cases hh6 with
          | true =>
            have hj6 : Jn [106] s6 D M := by
              rcases HLA.out with ⟨h1, _⟩ | ⟨_, h1, _⟩
              · exact h1
              · rw [← HH6.out] at h1; cases h1
            have HJ6 := hide hj6
            clear hj6
            go_wp2
            exact ⟨⟨i + 1, s6, F6, D, M, A, A, aa, aa, an, ac, an, ac, sure, sure, by simp, hil, rfl, rfl, rfl, rfl, by omega, by omega, hA, hA, hide (hl1.out.go HO6.out HC6.out HST.out HJ6.out (hl1.out.all.chg HC6.out) (fun h => by rw [← HH6.out] at h; cases h) (fun _ => hlive.out))⟩, by show n - ((i : Int) + 1).toNat < n - ((i : Nat) : Int).toNat; omega⟩
          | false =>
            have hj6 : Jn [106] s6 (D ++ M) [] := by
              rcases HLA.out with ⟨_, h1⟩ | ⟨_, _, h1⟩
              · rw [← HH6.out] at h1; cases h1
              · exact h1
            have HJ6 := hide hj6
            clear hj6
            go_wp2
            exact ⟨⟨i + 1, s6, F6, D ++ M, [], A, A, aa, aa, an, ac, an, ac, an, sure, by simp, hil, rfl, rfl, rfl, rfl, by omega, by omega, hA, hA, hide (hl1.out.go HO6.out HC6.out HST.out HJ6.out (hl1.out.all.chg HC6.out) (fun _ => ⟨by rw [List.append_nil]; exact hlive.out.1, by rw [hA.out, hlive.out.1]; exact Nat.le_refl _⟩) (fun h => by rw [← HH6.out] at h; cases h))⟩, by show n - ((i : Int) + 1).toNat < n - ((i : Nat) : Int).toNat; omega⟩
        by_cases hm5 : m = 5
        · subst hm5
          have hmod : (o.kind : Int).tmod 9 = 5 := hmod
          have hst' := swap_st hl1.out.st [106] o.l
          have hok' := tpSwap_ok hl1.out.own.ok [106] o.l
          have hla := hl1.out.jn.swap hl1.out.own.ok hnk HLV.out hl1.out.st o.l
          go_wp2_with fail
          refine (tp_Swap tb sb s F [106] (by decide) WB W1 hl1.out.own hl1.out.blk hl1.out.tn o.la o.ln o.lc o.l HOK.out.rl HOK.out.ln HOK.out.lmax).mono ?_
          rintro e w6 ⟨rfl, ht⟩
          obtain ⟨F6, hO6, hC6⟩ := hl1.out.own.step ht hok'
          obtain ⟨s6, hs6⟩ : ∃ t, t = (tpSwap s [106] o.l).2 := ⟨_, rfl⟩
          obtain ⟨e6, he6⟩ : ∃ t, t = (tpSwap s [106] o.l).1 := ⟨_, rfl⟩
          rw [← hs6] at hO6 hla hst'
          rw [← he6] at hla ⊢
          obtain ⟨_, _, q2⟩ := hob.out w6 F6 hC6
          have HO6 := hide hO6; have HC6 := hide hC6; have HLA := hide hla; have HST := hide hst'
          have hln := hlo.out.2.1
          clear ht hs6 he6 hok' hO6 hC6 hla hst'
          by_cases h6 : e6 = 0
          · subst h6
            have hj : ∃ D' M', Hid (Jn [106] s6 D' M') ∧ Hid (s6.halted = false → o.l = D' ++ M' ∧ o.ln ≤ D'.length) ∧ Hid (s6.halted = true → A = D' ++ M' ∧ sure ≤ D'.length) := by
              rcases HLA.out with ⟨h1, h2 | h2⟩ | ⟨_, h1, h2⟩
              · exact ⟨D, M, hide h1, hide (fun h => by rw [h2] at h; cases h), hide (fun _ => hlive.out)⟩
              · exact absurd rfl h2
              · exact ⟨o.l, [], hide h2, hide (fun _ => ⟨by simp, by rw [HOK.out.ln]; exact Nat.le_refl _⟩), hide (fun h => by rw [h1] at h; cases h)⟩
            obtain ⟨D', M', hj, hjl, hjd⟩ := hj
            have hLn := hide HOK.out.ln
            have hrl := hide HOK.out.rl
            clear HLA
            go_wp2
            exact ⟨⟨i + 1, s6, F6, D', M', o.l, A, o.la, aa, o.ln, o.lc, an, ac, o.ln, sure, by simp, hil, rfl, rfl, rfl, rfl, by omega, by omega, hLn, hA, hide (hl1.out.go HO6.out HC6.out HST.out hj.out (NtAt.arg hrl.out HO6.out.low HO6.out.up) hjl.out hjd.out)⟩, by show n - ((i : Int) + 1).toNat < n - ((i : Nat) : Int).toNat; omega⟩
          · have d6 : (e6 == 0) = false := by simpa using h6
            have hj : Hid (Jn [106] s6 D M) := hide (by
              rcases HLA.out with ⟨h1, _⟩ | ⟨h1, _⟩
              · exact h1
              · exact absurd h1 h6)
            clear h6 HLA
            go_wp2
            exact ⟨⟨i + 1, s6, F6, D, M, A, A, aa, aa, an, ac, an, ac, sure, sure, by simp, hil, rfl, rfl, rfl, rfl, by omega, by omega, hA, hA, hide (hl1.out.go HO6.out HC6.out HST.out hj.out (hl1.out.all.chg HC6.out) (fun _ => hlive.out) (fun _ => hlive.out))⟩, by show n - ((i : Int) + 1).toNat < n - ((i : Nat) : Int).toNat; omega⟩
        have e4 : ((m : Int) == 4) = false := by simpa using fun e : (m : Int) = 4 => hm4 (by omega)
        have e5 : ((m : Int) == 5) = false := by simpa using fun e : (m : Int) = 5 => hm5 (by omega)
        by_cases hm3 : m < 4
        case neg =>
          have k0 : ((m : Int) == 0) = false := by simpa using fun e : (m : Int) = 0 => hm3 (by omega)
          have k1 : ((m : Int) == 1) = false := by simpa using fun e : (m : Int) = 1 => hm3 (by omega)
          have k2 : ((m : Int) == 2) = false := by simpa using fun e : (m : Int) = 2 => hm3 (by omega)
          have k3 : ((m : Int) == 3) = false := by simpa using fun e : (m : Int) = 3 => hm3 (by omega)
          go_wp2
          exact ⟨⟨i + 1, s, F, D, M, A, A, aa, aa, an, ac, an, ac, sure, sure, by simp, hil, rfl, rfl, rfl, rfl, by omega, by omega, hA, hA, hide (hl1.out.go hl1.out.own (Chg.refl _ _) hl1.out.st hl1.out.jn hl1.out.all (fun _ => hlive.out) (fun _ => hlive.out))⟩, by show n - ((i : Int) + 1).toNat < n - ((i : Nat) : Int).toNat; omega⟩
        rcases (show m = 0 ∨ m = 1 ∨ m = 2 ∨ m = 3 by omega) with rfl | rfl | rfl | rfl
        all_goals
          have hst' := (note_lh s [106] o.b).st hl1.out.st
          have hok' := tpAppend_ok hl1.out.own.ok [106] o.b
          have hla := hl1.out.jn.note HLV.out o.b
          have hbl := hide (HOK.out.rb.lt0 HOK.out.bn)
          go_wp2_with fail
          refine (tp_Append tb sb s F [106] (by decide) o.ba o.bn o.bc o.b W1 hl1.out.blk hl1.out.own.rep hl1.out.own.ok (HOK.out.rb.low hl1.out.own.low) HOK.out.bn HOK.out.bc0 HOK.out.bc1 (fun h9 j hj => Nat.lt_of_lt_of_le (hbl.out h9 j hj) hl1.out.own.low.size)).mono ?_
          rintro e w6 ⟨rfl, ht⟩
          obtain ⟨F6, hO6, hC6⟩ := hl1.out.own.step ht hok'
          obtain ⟨s6, hs6⟩ : ∃ t, t = (tpAppend s [106] o.b).2 := ⟨_, rfl⟩
          obtain ⟨e6, he6⟩ : ∃ t, t = (tpAppend s [106] o.b).1 := ⟨_, rfl⟩
          rw [← hs6] at hO6 hla hst'
          rw [← he6] at hla ⊢
          obtain ⟨_, q1, _⟩ := hob.out w6 F6 hC6
          have HO6 := hide hO6; have HC6 := hide hC6; have HLA := hide hla; have HST := hide hst'
          clear ht hs6 he6 hok' hO6 hC6 hla hst'
          by_cases h6 : e6 = 0
          case neg =>
            have d6 : (e6 == 0) = false := by simpa using h6
            have hj : Hid (Jn [106] s6 D M) := hide (by
              rcases HLA.out with ⟨h1, _⟩ | ⟨h1, _⟩
              · exact h1
              · exact absurd h1 h6)
            clear h6 HLA
            go_wp2
            exact ⟨⟨i + 1, s6, F6, D, M, A, A, aa, aa, an, ac, an, ac, sure, sure, by simp, hil, rfl, rfl, rfl, rfl, by omega, by omega, hA, hA, hide (hl1.out.go HO6.out HC6.out HST.out hj.out (hl1.out.all.chg HC6.out) (fun _ => hlive.out) (fun _ => hlive.out))⟩, by show n - ((i : Int) + 1).toNat < n - ((i : Nat) : Int).toNat; omega⟩
          subst h6
          have hj : ∃ M', Hid (Jn [106] s6 D M') ∧ Hid (s6.halted = false → A ++ [o.b] = D ++ M' ∧ sure ≤ D.length) ∧ Hid (s6.halted = true → A = D ++ M' ∧ sure ≤ D.length) := by
            rcases HLA.out with ⟨h1, h2 | h2⟩ | ⟨_, h1, h2⟩
            · exact ⟨M, hide h1, hide (fun h => by rw [h2] at h; cases h), hide (fun _ => hlive.out)⟩
            · exact absurd rfl h2
            · exact ⟨M ++ [o.b], hide h2, hide (fun _ => ⟨by rw [hlive.out.1, List.append_assoc], hlive.out.2⟩), hide (fun h => by rw [h1] at h; cases h)⟩
          obtain ⟨M', hj, hjl, hjd⟩ := hj
          clear HLA
          obtain ⟨xs, hrd, hxs, hent, hone⟩ := (hl1.out.all.chg HC6.out).one
          rw [← hA.out] at hrd hxs
          have HRD := hide hrd; have HXS := hide hxs; have HENT := hide hent; have HONE := hide hone
          have hs6l := HO6.out.low.size
          have hal6 := hide (hl1.out.all.chg HC6.out)
          clear hrd hxs hent hone
          go_upto_region 33 with (at_builtin; refine wpList_append_rd rfl _ _ 22 rfl WB.heap.size 23 iS (.slice none 0 0) 1 24 Tryd.underlying22 hiS hyS0 hyS1 hyS2 rfl (by decide) (.slice none 0 0) 0 [] rfl (World.ownsRow_nil _ _ _ _) _ an xs rfl (by exact HRD.out) HONE.out (by unfold maxLen; omega) (by omega) hs6l ?_; intro v7 w7 hown7 hg7 hnil7 hb7; rw [Nat.zero_add, List.nil_append] at hown7; obtain ⟨a7, co7, rfl⟩ := (ownsRow_rd hown7).head; have HO7 := hide hown7; have HG7 := hide hg7; have HB7 := hide hb7; clear hown7 hg7 hnil7 hb7)
          have hs7 : w6.heap.size ≤ w7.heap.size := HG7.out.size
          have h67 := hide (show Below w6.heap.size w6 w7 from (Below.refl _ _).grown HG7.out (Nat.le_refl _) (fun k hk => by cases hk))
          have hrd8 := hide (rd_new w7 #[.slice o.ba o.bn o.bc] 23 1 1 (by decide) rfl)
          have hro8 := hide (HO7.out.alloc (.cells #[.slice o.ba o.bn o.bc] 23))
          have hal7 := hide (below_alloc w7 (.cells #[.slice o.ba o.bn o.bc] 23))
          have q17 : w7.cell? ⟨ob, 1, none⟩ = some (.slice o.ba o.bn o.bc) := (hob.out w7 F6 (HC6.out.trans (Chg.of_below h67.out))).2.1
          clear q1
          go_wp2_with (at_builtin; refine wpList_append_rd rfl _ _ 22 rfl WB.heap.size 23 iS (.slice none 0 0) 1 24 Tryd.underlying22 hiS hyS0 hyS1 hyS2 rfl (by decide) _ an xs rfl (by exact hro8.out) _ 1 [.slice o.ba o.bn o.bc] rfl (by exact hrd8.out) (by simp [Value.oneCell']) (by unfold maxLen; omega) (by omega) (by simp; omega) ?_; intro v9 w9 hown9 hg9 hnil9 hb9; obtain ⟨a9, co9, rfl⟩ := (ownsRow_rd hown9).head; have HO9 := hide hown9; have HG9 := hide hg9; have HB9 := hide hb9; clear hown9 hg9 hnil9 hb9)
          have hf7 : ∀ k, (Value.slice a7 an co7).ownBlock = some k → w6.heap.size ≤ k := fun k hk => by
            rcases HB7.out with e | e
            · rw [e] at hk; cases hk
            · rw [e] at hk; simp only [Option.some.injEq] at hk; omega
          have h69 : Below w6.heap.size w6 w9 := (h67.out.trans (hal7.out.mono hs7)).grown HG9.out (by simp; omega) hf7
          have hf9 : ∀ k, (Value.slice a9 (an + 1) co9).ownBlock = some k → w6.heap.size ≤ k := fun k hk => by
            rcases HB9.out with e | e
            · rw [e] at hk; exact hf7 k hk
            · rw [e] at hk; simp only [Option.some.injEq, World.alloc, Array.size_push] at hk; omega
          have hA2 : an + 1 = (A ++ [o.b]).length := by rw [List.length_append, ← hA.out]; rfl
          have hown9 := HO9.out
          refine ⟨⟨i + 1, s6, F6, D, M', A ++ [o.b], A, a9, aa, an + 1, co9, an, ac, sure, sure, by simp, hil, rfl, rfl, rfl, rfl, by omega, by omega, hide hA2, hA, hide (hl1.out.go (HO6.out.then h69) (HC6.out.trans (Chg.of_below h69)) HST.out hj.out (NtAt.own (xs := xs ++ [.slice o.ba o.bn o.bc]) (B := WB.heap.size) (by rw [← hA2]; exact hown9) (by rw [← hA2, List.length_append, HXS.out]; rfl) (fun j v' x' hv hx' => ?_) (fun k hk hm => by have h1 := HO6.out.rep.lt k hm; have h2 := hf9 k (by simpa [Value.ownBlock] using hk); omega)) hjl.out hjd.out)⟩, by show n - ((i : Int) + 1).toNat < n - ((i : Nat) : Int).toNat; omega⟩
          by_cases hjx : j < an
          · rw [List.getElem?_append_left (by rw [HXS.out]; exact hjx)] at hv
            rw [List.getElem?_append_left (by rw [← hA.out]; exact hjx)] at hx'
            exact HENT.out j v' x' hv hx'
          · have hji : j = an := by
              have := (List.getElem?_eq_some_iff.1 hv).1
              rw [List.length_append, HXS.out] at this
              simp at this
              omega
            subst hji
            rw [List.getElem?_append_right (by rw [HXS.out]; omega), HXS.out, Nat.sub_self] at hv
            obtain rfl : _ = v' := by simpa using hv
            rw [List.getElem?_append_right (by rw [← hA.out]; omega), ← hA.out, Nat.sub_self] at hx'
            obtain rfl : o.b = x' := by simpa using hx'
            exact HOK.out.rb
  case rest =>
    obtain ⟨s, F, D, M, A, Wl, aa, wa, an, ac, wn, wq, sure, sw, rfl, rfl, rfl, rfl, han, hwn, hA, hW, hls⟩ := hcut
    clear hst
    obtain ⟨w4b, hw4b⟩ : ∃ w, w = wc := ⟨_, rfl⟩
    subst hw4b
    obtain ⟨hh, hhh⟩ : ∃ b, b = s.halted := ⟨_, rfl⟩
    have HH := hide hhh
    clear hhh
    go_wp2_with fail
    refine (fs_Halted sb s F w4b hls.out.own.rep).mono ?_
    rintro e w5 ⟨rfl, rfl⟩
    rw [← HH.out]
    go_upto_if 132 with fail
    go_cut [16, 18] (fun wv xv wx => ∃ (wa : Option Addr) (wn wq sw : Nat), wv = .slice wa wn wq ∧ xv = .int .i64 sw ∧ wn ≤ 50 ∧ Hid (wn = (D ++ M).length) ∧ Hid (NtAt WB w4b F (.slice wa wn wq) (D ++ M)) ∧ Hid (sw ≤ D.length) ∧ w4b = wx)
    case first =>
      cases hh with
      | true =>
        have hd := hls.out.dead HH.out.symm
        have H9 := hide (show wn = (D ++ M).length ∧ NtAt WB w4b F (.slice wa wn wq) (D ++ M) from ⟨by rw [← hd.1]; exact hW.out, by rw [← hd.1]; exact hls.out.was⟩)
        have H8 := hide hd.2
        clear hd
        go_wp2
        go_meet
        exact ⟨wa, wn, wq, sw, rfl, rfl, hwn, hide H9.out.1, hide H9.out.2, H8, rfl⟩
      | false =>
        have hd := hls.out.live HH.out.symm
        have H9 := hide (show an = (D ++ M).length ∧ NtAt WB w4b F (.slice aa an ac) (D ++ M) from ⟨by rw [← hd.1]; exact hA.out, by rw [← hd.1]; exact hls.out.all⟩)
        have H8 := hide hd.2
        clear hd
        go_wp2
        go_meet
        exact ⟨aa, an, ac, sure, rfl, rfl, han, hide H9.out.1, hide H9.out.2, H8, rfl⟩
    case rest =>
      obtain ⟨wa', wn', wq', sw', rfl, rfl, hwn', hW', hWas, hsw, rfl⟩ := hcut
      have hlow4 := hls.out.own.low
      obtain ⟨⟨b0, b1⟩, -⟩ := hbc.out w4b hlow4
      have hcn := hls.out.jn.crash K2 t2
      have HOWN := hide hls.out.own; have HALL := hide hls.out.all; have HCN := hide hcn
      clear hls hlow4 hcn HH
      go_wp2_with fail
      refine (fs_Crash sb s F a2 n2 c2 t2 K2 w4b HOWN.out.rep HOWN.out.ok (H2.out.low HOWN.out.low) HN2.out (by omega) (fun h0 k hk hm => by have := low2.out h0 k hk; have := HOWN.out.up k hm; omega) lo2 hi2).mono ?_
      rintro e w5 ⟨rfl, ht⟩
      obtain ⟨F5, hO5, hC5⟩ := HOWN.out.step ht (fsCrash_ok HOWN.out.ok K2 t2)
      obtain ⟨ci, cr, hcn⟩ := HCN.out
      obtain ⟨s5, hs5⟩ : ∃ t, t = fsCrash s K2 t2 := ⟨_, rfl⟩
      rw [← hs5] at hO5 hcn
      obtain ⟨N, hN⟩ : ∃ N, N = D ++ M.take ci := ⟨_, rfl⟩
      rw [← hN] at hcn
      have hNl : N.length ≤ wn' ∧ sw' ≤ N.length := by
        have h1 := hsw.out; have h2 := hW'.out
        rw [hN, List.length_append, List.length_take]
        rw [List.length_append] at h2
        omega
      have hNt : Hid ((D ++ M).take N.length = N) := hide (by
        rw [hN, List.length_append, List.length_take, List.take_append, List.take_of_length_le (by omega)]
        congr 1
        by_cases h : ci ≤ M.length
        · rw [Nat.min_eq_left h]
          congr 1
          omega
        · rw [List.take_of_length_le (show M.length ≤ ci by omega), List.take_of_length_le (by omega)])
      have HO5 := hide hO5; have HCN5 := hide hcn
      have HALL5 := hide (HALL.out.chg hC5); have HWAS5 := hide (hWas.out.chg hC5)
      clear ht hO5 hC5 hcn hs5 hN b0 b1 HOWN HALL HCN hWas
      have hmod := tmod8 y3
      obtain ⟨z, hz⟩ : ∃ z, z = y3 % 8 := ⟨_, rfl⟩
      rw [← hz] at hmod
      have hz8 : z < 8 := by omega
      have hwz : IntKind.u8.wrap (z : Int) = z := by rw [IntKind.wrap_u8]; omega
      have hwz2 : IntKind.i64.wrap (z : Int) = z := wrap64 (by omega) (by omega)
      clear hz
      go_wp2_with fail
      refine (fs_Halt sb s5 F5 (z : Int) w5 HO5.out.rep).mono ?_
      rintro e w6 ⟨rfl, ht⟩
      obtain ⟨F6, hO6, hC6⟩ := HO5.out.step ht (fsHalt_ok HO5.out.ok _ (by omega))
      have hcn6 : Cn [106] (fsHalt s5 (z : Int)) N cr := ⟨HCN5.out.file, HCN5.out.wait, HCN5.out.stop, HCN5.out.short⟩
      obtain ⟨s7, r7, hop7, hcn7⟩ := hcn6.open (by decide) (by decide)
      have HO6 := hide hO6; have HOP7 := hide hop7
      have HALL6 := hide (HALL5.out.chg hC6); have HWAS6 := hide (HWAS5.out.chg hC6)
      have HCN8 := hide (hcn7.crash K4 t4)
      clear ht hO6 hC6 hcn6 hop7 hcn7 HCN5 HALL5 HWAS5 HO5
      go_wp2_with fail
      refine (tp_open_own HO6.out hk HOP7.out).mono ?_
      rintro e w7 ⟨F7, tb7, m7, a7, c7, xs7, rfl, -, hO7, hC7, -, -, -, -, -, -⟩
      have HO7 := hide hO7
      have HALL7 := hide (HALL6.out.chg hC7); have HWAS7 := hide (HWAS6.out.chg hC7)
      obtain ⟨-, b2, b3⟩ := hbc.out w7 hO7.low
      clear hO7 hC7 HALL6 HWAS6 HOP7
      go_wp2_with fail
      refine (fs_Crash sb s7 F7 a4 n4 c4 t4 K4 w7 HO7.out.rep HO7.out.ok (H4.out.low HO7.out.low) HN4.out (by omega) (fun h0 k hk hm => by have := low4.out h0 k hk; have := HO7.out.up k hm; omega) lo4 hi4).mono ?_
      rintro e w8 ⟨rfl, ht⟩
      obtain ⟨F8, hO8, hC8⟩ := HO7.out.step ht (fsCrash_ok HO7.out.ok K4 t4)
      obtain ⟨s9, r9, hop9, hcn9⟩ := HCN8.out.open (by decide) (by decide)
      obtain ⟨s10, r10, hop10, -⟩ := hcn9.open (by decide) (by decide)
      have HO8 := hide hO8; have HOP9 := hide hop9; have HOP10 := hide hop10
      have HALL8 := hide (HALL7.out.chg hC8); have HWAS8 := hide (HWAS7.out.chg hC8)
      clear ht hO8 hC8 hop9 hop10 hcn9 HCN8 HALL7 HWAS7 b2 b3
      go_wp2_with fail
      refine (tp_open_own HO8.out hk HOP9.out).mono ?_
      rintro e w9 ⟨F9, tb9, gm, g9, gc9, xs9, rfl, hgm, hO9, hC9, -, -, -, hat9, hxs9, hfar9⟩
      have HO9 := hide hO9
      have HALL9 := hide (HALL8.out.chg hC9); have HWAS9 := hide (HWAS8.out.chg hC9)
      have HAT9 := hide hat9; have HFAR9 := hide hfar9; have HXS9 := hide hxs9
      have HGM := hide (show gm = N.length by rw [hgm, ← hxs9, List.length_map])
      clear hgm hO9 hC9 hat9 hxs9 hfar9 HALL8 HWAS8
      go_wp2_with fail
      refine (tp_open_own HO9.out hk HOP10.out).mono ?_
      rintro e w10 ⟨F10, tb10, om, o10, oc10, xs10, rfl, hom, hO10, hC10, -, -, -, hat10, hxs10, -⟩
      have hlow10 := hide hO10.low
      have HALL10 := hide (HALL9.out.chg hC10); have HWAS10 := hide (HWAS9.out.chg hC10)
      have hgot : Hid (RdBs w10 (.slice g9 gm gc9) N) := hide (by have h9 := (HAT9.out.chg HFAR9.out hC10).1.rd; rw [HXS9.out] at h9; exact h9)
      have honce : Hid (RdBs w10 (.slice o10 om oc10) N) := hide (by have h9 := hat10.rd; rw [hxs10] at h9; exact h9)
      have HOM := hide (show om = N.length by rw [hom, ← hxs10, List.length_map])
      have hgm1 : gm ≤ wn' := by rw [HGM.out]; exact hNl.1
      have hgm2 : sw' ≤ gm := by rw [HGM.out]; exact hNl.2
      obtain rfl : om = gm := by rw [HOM.out, HGM.out]
      clear hom hO10 hC10 hat10 hxs10 HALL9 HWAS9 HAT9 HFAR9 HXS9 hNl
      go_upto_region 44 with fail
      have hac := HALL10.out.cap
      have hwc := HWAS10.out.cap
      go_cut [28] (fun v wx => ∃ ob : Bool, v = .bool ob ∧ Hid (Below w10.heap.size w10 wx))
      case first =>
        by_cases q1 : om ≤ an
        case neg =>
          have d1 : decide ((om : Int) ≤ an) = false := decide_eq_false (by omega)
          go_wp2
          go_meet
          exact ⟨false, rfl, hide (Below.refl _ _)⟩
        have d1 : decide ((om : Int) ≤ an) = true := decide_eq_true (by omega)
        by_cases q2 : sure ≤ om
        case neg =>
          have d2 : decide ((sure : Int) ≤ om) = false := decide_eq_false (by omega)
          go_wp2
          go_meet
          exact ⟨false, rfl, hide (Below.refl _ _)⟩
        have d2 : decide ((sure : Int) ≤ om) = true := decide_eq_true (by omega)
        have d3 : min (om : Int) (an : Int) = om := Int.min_eq_left (by omega)
        have d5 : (om : Int) ≤ ac := by omega
        obtain ⟨ob, hob⟩ : ∃ b, b = decide (N = A.take om) := ⟨_, rfl⟩
        have HOB := hide hob
        clear hob
        have hfr := hide (HALL10.out.front hlow10.out om (by rw [← hA.out]; exact q1))
        have hfl : Hid (om = (A.take om).length) := hide (by rw [List.length_take]; have := hA.out; omega)
        go_wp2_with fail
        refine (ref_SameNotes g9 aa om gc9 om ac N (A.take om) w10 hgot.out HGM.out hfr.out hfl.out (by omega) (by omega)).mono ?_
        rintro e w11 ⟨rfl, hb11⟩
        rw [← HOB.out]
        have HB11 := hide hb11
        clear hb11
        go_wp2
        go_meet
        exact ⟨ob, rfl, HB11⟩
      case rest =>
        obtain ⟨ob, rfl, hb11⟩ := hcut
        obtain ⟨w11, hw11⟩ : ∃ w, w = wc := ⟨_, rfl⟩
        subst hw11
        have d1 : decide ((om : Int) ≤ wn') = true := decide_eq_true (by omega)
        have d2 : decide ((sw' : Int) ≤ om) = true := decide_eq_true (by omega)
        have d3 : min (om : Int) (wn' : Int) = om := Int.min_eq_left (by omega)
        have d5 : (om : Int) ≤ wq' := by omega
        have hfr := hide ((HWAS10.out.front hlow10.out om (by rw [← hW'.out]; exact hgm1)).low hb11.out)
        have hfl : Hid (om = ((D ++ M).take om).length) := hide (by rw [List.length_take]; have := hW'.out; omega)
        have hsm : Hid (decide (N = (D ++ M).take om) = true) := hide (decide_eq_true (by rw [HGM.out]; exact hNt.out.symm))
        go_wp2_with fail
        refine (ref_SameNotes g9 wa' om gc9 om wq' N ((D ++ M).take om) w11 (hgot.out.low hb11.out) HGM.out hfr.out hfl.out (by omega) (by omega)).mono ?_
        rintro e w12 ⟨rfl, hb12⟩
        rw [hsm.out]
        have HB12 := hide (hb11.out.trans (hb12.mono hb11.out.size))
        clear hb12
        go_wp2_with fail
        refine (ref_SameNotes g9 o10 om gc9 om oc10 N N w12 (hgot.out.low HB12.out) HGM.out (honce.out.low HB12.out) HOM.out (by omega) (by omega)).mono ?_
        rintro e w13 ⟨rfl, hb13⟩
        rw [decide_eq_true (rfl : N = N)]
        have HB13 := hide ((HBB.out.trans (hlow10.out.mono HBB.out.size)).trans ((HB12.out.trans (hb13.mono HB12.out.size)).mono (Nat.le_trans HBB.out.size hlow10.out.size)))
        clear hb13
        cases ob with
        | true =>
          go_wp2
          go_ret
          exact ⟨rfl, HB13.out⟩
        | false =>
          go_wp2
          go_ret
          exact ⟨rfl, HB13.out⟩
end Go.Proofs.YtglgjakjhkdoaaaDoor
