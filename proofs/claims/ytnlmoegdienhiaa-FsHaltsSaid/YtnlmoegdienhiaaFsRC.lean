/-
  The walk of FsHalts.
-/
import Derived.Test.YtnlmoegdienhiaaFsRB
import Derived.Deep.DeepCutAuto
namespace Go.Proofs.Ytnlmoegdienhiaa
open Go.RowKit Go.Maps
set_option linter.unusedVariables false
set_option linter.unusedSimpArgs false

/-- a call in a box of its own -/
def OpBox (w : World) (q : Nat) (o : Opr) : Prop := w.heap[q]? = some (.cells o.cells.toArray 44 (0, 0))
theorem OpBox.facts {w : World} {q : Nat} {o : Opr} (h : OpBox w q o) : w.cell? ⟨q, 0, none⟩ = some (.int .u8 o.kind) ∧ w.cell? ⟨q, 1, none⟩ = some (.string ⟨o.name.toArray⟩) ∧ w.cell? ⟨q, 2, none⟩ = some (.string ⟨o.other.toArray⟩) ∧ w.cell? ⟨q, 3, none⟩ = some (.slice o.ba o.bn o.bc) ∧ w.cell? ⟨q, 4, none⟩ = some (.int .i64 o.num) ∧ w.cell? ⟨q, 5, none⟩ = some (.slice o.ka o.kn o.kc) ∧ w.cell? ⟨q, 6, none⟩ = some (.int .i64 o.t) := by
  unfold OpBox at h
  simp [World.cell?, h, Opr.cells]
theorem OpBox.lt {w : World} {q : Nat} {o : Opr} (h : OpBox w q o) : q < w.heap.size := (Array.getElem?_eq_some_iff.1 h).1
theorem OpBox.low {w w' : World} {q : Nat} {o : Opr} (h : OpBox w q o) (hb : Below w.heap.size w w') : OpBox w' q o := (hb.block q h.lt).trans h
theorem OpBox.chg {w w' : World} {q : Nat} {o : Opr} {F F' : List Nat} (h : OpBox w q o) (hc : Chg F F' w w') (hq : q ∉ F) : OpBox w' q o := (hc.block q h.lt hq).trans h
theorem Two.stepC {W w w' : World} {p q : Nat} {S T S' : FsS} {F G : List Nat} (h : Two W w p S F q T G) (ht : FsTo w p F S' w') (ok : S'.Ok) : ∃ F', Two W w' p S' F' q T G ∧ Chg F F' w w' := by
  obtain ⟨F', h1, h2⟩ := h.a.step ht ok
  refine ⟨F', ⟨h1, ⟨h.b.rep.chg h2 fun k hk hm => h.far k hm hk, h.b.up, h1.low, h.b.ok⟩, fun k hk hm => ?_⟩, h2⟩
  rcases h2.fresh k hk with h3 | h3
  · exact h.far k h3 hm
  · have := h.b.rep.lt k hm
    omega

set_option maxRecDepth 100000 in
set_option maxHeartbeats 6400000 in
theorem law_FsHalts (W : World) (v : Value) (L : List Opr) (h : RdOps W v L) (u : UInt8) (a2 : Option Addr) (n2 c2 : Nat) (t2 : Int) (K2 : List Bool) (h2 : RdK W (.slice a2 n2 c2) K2) (hn2 : n2 = K2.length) (lo2 : -9223372036854775808 ≤ t2) (hi2 : t2 ≤ 9223372036854775807) :
    Calls Try.prog 7 #[v, .int .u8 (u.toNat : Int), .agg #[.slice a2 n2 c2, .int .i64 t2]] W fun e w' => e = .returned (.bool true) ∧ Below W.heap.size W w' := by
  obtain ⟨a, c, rfl⟩ := h.head
  obtain ⟨WB, hWB⟩ : ∃ WB, WB = W.alloc (.cells #[.slice a2 n2 c2, .int .i64 t2] 25) := ⟨_, rfl⟩
  obtain ⟨hBB, hsz, hbc0⟩ := loss_box WB hWB
  have hbc := hide hbc0
  have HBB := hide hBB
  have H := hide (h.low hBB); have H2 := hide (h2.low hBB)
  have HN2 := hide hn2
  have low2 := hide (H2.out.lowK hn2)
  obtain ⟨e0, e1⟩ := hbc.out WB (Below.refl _ _)
  have hWB' := hide hWB
  clear h h2 hn2 hBB hsz hbc0
  go_enter Try.func7, Try.ntmps7
  go_upto_region 1 with fail
  rw [← hWB]
  clear hWB
  go_wp2_with fail
  refine (law_heavy _ L WB H.out).mono ?_
  rintro e w1 ⟨rfl | ⟨rfl, h50, hlight⟩, hb1⟩
  · have HB1 := hide hb1
    clear hb1
    go_wp2_with (refine (fs_known _).mono ?_; rintro e w' ⟨rfl, hb⟩; have HB := hide hb; clear hb)
    go_ret
    exact ⟨rfl, HBB.out.trans ((HB1.out.trans (HB.out.mono HB1.out.size)).mono HBB.out.size)⟩
  have HB1 := hide hb1; have HLI := hide hlight
  clear hb1 hlight e0 e1
  obtain ⟨e0, e1⟩ := hbc.out w1 HB1.out
  by_cases big2 : 60 < n2
  · have i2 : (60 : Int) < n2 := by omega
    go_wp2_with (refine (fs_known _).mono ?_; rintro e w' ⟨rfl, hb⟩; have HB := hide hb; clear hb)
    go_ret
    exact ⟨rfl, HBB.out.trans ((HB1.out.trans (HB.out.mono HB1.out.size)).mono HBB.out.size)⟩
  have i2 : ¬ ((60 : Int) < n2) := by omega
  go_wp2_with fail
  refine (fs_known _).mono ?_
  rintro e w2 ⟨rfl, hb2⟩
  have HB2 := hide (HB1.out.trans (hb2.mono HB1.out.size))
  clear hb2 HB1 e0 e1
  go_wp2_with fail
  refine (fs_New' 5000 (by omega) (by omega) WB w2 HB2.out).mono ?_
  rintro e w3 ⟨sa, F0, rfl, hf0, _, _⟩
  have G0 := hide hf0
  clear hf0 HB2
  go_wp2_with fail
  refine (fs_New' 5000 (by omega) (by omega) WB w3 G0.out.low).mono ?_
  rintro e w4 ⟨sb, G1, rfl, hg1, hge, hb3⟩
  have T0 : Hid (Two WB w4 sa (fsNew 5000) F0 sb (fsNew 5000) G1) := hide ⟨G0.out.then hb3, hg1, fun k hk hm => by have := hge k hm; have := G0.out.rep.lt k hk; omega⟩
  clear G0 hg1 hge hb3
  obtain ⟨m, hm⟩ : ∃ m : Nat, (u.toNat : Int).tmod 30 = (m : Int) := ⟨((u.toNat : Int).tmod 30).toNat, by have := Int.tmod_nonneg (30 : Int) (show (0 : Int) ≤ (u.toNat : Int) by omega); omega⟩
  have hm30 : m < 30 := by have := Int.tmod_lt_of_pos (u.toNat : Int) (show (0 : Int) < 30 by omega); omega
  have hmw : IntKind.i64.wrap (m : Int) = m := wrap64 (by omega) (by omega)
  go_wp2_with fail
  refine (fs_Halt sa _ F0 m w4 T0.out.a.rep).mono ?_
  rintro e w5 ⟨rfl, ht⟩
  obtain ⟨F1, ht1⟩ := T0.out.step ht (fsHalt_ok T0.out.a.ok m (by omega))
  obtain ⟨hst, hfr⟩ := halts_start m (by omega)
  obtain ⟨S0, hS0⟩ : ∃ S0, S0 = fsHalt (fsNew 5000) m := ⟨_, rfl⟩
  rw [← hS0] at ht1 hst hfr
  rw [hfr] at ht1
  have T1 := hide ht1; have HST := hide hst
  clear T0 ht ht1 hst hfr hS0
  go_wp2
  go_loopw [9, 10, 11, 12, 13] (fun lv iv _ _ _ wr => ∃ (i : Nat) (n : Int) (s : FsS) (F G : List Nat), iv = .int .i64 i ∧ i ≤ L.length ∧ lv = .int .i64 n ∧ -1 ≤ n ∧ n ≤ 29 ∧ Hid (Two WB wr sa s F sb s.free G ∧ Halts s n)) (fun _ iv _ _ _ _ => match iv with | .int _ j => L.length - j.toNat | _ => 0)
  case atStart => exact ⟨0, m, S0, F1, G1, rfl, Nat.zero_le _, rfl, by omega, by omega, hide ⟨T1.out, HST.out⟩⟩
  case round =>
    obtain ⟨i, n, s, F, G, rfl, hil, rfl, hn1, hn2', hs⟩ := hrel
    clear T1 HST
    by_cases hgo : i < L.length ∧ 0 ≤ n
    · obtain ⟨hin, hn0⟩ := hgo
      have i0 : (i : Int) < L.length := by omega
      have j0 : ¬ (n < 0) := by omega
      obtain ⟨bb, off, cc, o, he, hLo, hbb, hok, c0, c1, c2, c3, c4, c5, c6⟩ := H.out.at hin
      simp only [Value.slice.injEq] at he
      obtain ⟨rfl, -, rfl⟩ := he
      have hlo := HLI.out o (by rw [← hLo]; exact List.getElem_mem hin)
      have HOK := hide hok; have HLO := hide hlo
      have hlow := hs.out.1.a.low
      replace c0 := (hlow.cell (p := ⟨bb, off + i * 7, none⟩) hbb).trans c0
      replace c1 := (hlow.cell (p := ⟨bb, off + i * 7 + 1, none⟩) hbb).trans c1
      replace c2 := (hlow.cell (p := ⟨bb, off + i * 7 + 2, none⟩) hbb).trans c2
      replace c3 := (hlow.cell (p := ⟨bb, off + i * 7 + 3, none⟩) hbb).trans c3
      replace c4 := (hlow.cell (p := ⟨bb, off + i * 7 + 4, none⟩) hbb).trans c4
      replace c5 := (hlow.cell (p := ⟨bb, off + i * 7 + 5, none⟩) hbb).trans c5
      replace c6 := (hlow.cell (p := ⟨bb, off + i * 7 + 6, none⟩) hbb).trans c6
      have hmod := tmod14 o.kind
      have hwi : IntKind.i64.wrap ((i : Int) + 1) = (i : Int) + 1 := wrap64 (by omega) (by omega)
      have hwn : IntKind.i64.wrap (n - 1) = n - 1 := wrap64 (by omega) (by omega)
      obtain ⟨W1, hW1⟩ : ∃ W1, W1 = wr.alloc (.cells o.cells.toArray 44) := ⟨_, rfl⟩
      have hbox := heap_alloc_at wr (.cells o.cells.toArray 44)
      have hb1 := below_alloc wr (.cells o.cells.toArray 44)
      rw [← hW1] at hbox hb1
      have hW2 : wr.alloc (.cells #[.int .u8 o.kind, .string ⟨o.name.toArray⟩, .string ⟨o.other.toArray⟩, .slice o.ba o.bn o.bc, .int .i64 o.num, .slice o.ka o.kn o.kc, .int .i64 o.t] 44) = W1 := hW1.symm
      have HBX : Hid (OpBox W1 wr.heap.size o) := hide hbox
      have HT1 := hide (hs.out.1.then hb1)
      have HHL := hide hs.out.2
      have HFq : Hid (wr.heap.size ∉ F) := hide fun hm => by have := hs.out.1.a.rep.lt _ hm; omega
      have HGq : Hid (wr.heap.size ∉ G) := hide fun hm => by have := hs.out.1.b.rep.lt _ hm; omega
      clear hok hlo hLo hlow hW1 hbox hb1
      obtain ⟨k, hk⟩ : ∃ k, k = o.kind % 14 := ⟨_, rfl⟩
      rw [← hk] at hmod
      have HK := hide hk
      have hk14 : k < 14 := by omega
      clear hk
      go_upto_region 13 with fail
      clear c0 c1 c2 c3 c4 c5 c6 hW2 hs
      obtain ⟨q, hq⟩ : ∃ q, q = wr.heap.size := ⟨_, rfl⟩
      rw [← hq] at HBX HFq HGq ⊢
      clear hq
      obtain ⟨f0, f1, f2, f3, f4, f5, f6⟩ := HBX.out.facts
      by_cases hk10 : 10 < k
      · have i5 : (10 : Int) < k := by omega
        go_wp2
        exact ⟨⟨i + 1, n, s, F, G, by simp, hin, rfl, hn1, hn2', hide ⟨HT1.out, HHL.out⟩⟩, by show L.length - ((i : Int) + 1).toNat < L.length - ((i : Nat) : Int).toNat; omega⟩
      have i5 : ¬ ((10 : Int) < k) := by omega
      obtain ⟨pb, hpb⟩ : ∃ pb, pb = decide (0 < o.bn) := ⟨_, rfl⟩
      have i6 : decide ((0 : Int) < o.bn) = pb := by
        rw [hpb]
        by_cases e : 0 < o.bn
        · rw [decide_eq_true e, decide_eq_true (by omega)]
        · rw [decide_eq_false e, decide_eq_false (by omega)]
      have HPB := hide hpb
      clear hpb
      go_upto_region 15 with fail
      go_wp2_with fail
      refine (fs_plays sa s F o W1 HT1.out.a.rep HT1.out.a.ok (HOK.out.low HT1.out.a.low) HLO.out.1 (fun h0 k hk hm => by have := HOK.out.lowB h0 k hk; have := HT1.out.a.up k hm; omega)).mono ?_
      rintro e w7 ⟨rfl, ht⟩
      obtain ⟨F7, hT7, hC7⟩ := HT1.out.stepC ht (fsPlay_ok HT1.out.a.ok o)
      have HBX7 := hide (HBX.out.chg hC7 HFq.out)
      have HT7 := hide hT7
      clear ht hT7 hC7 f0 f1 f2 f3 f4 f5 f6 HBX HT1
      obtain ⟨f0, f1, f2, f3, f4, f5, f6⟩ := HBX7.out.facts
      obtain ⟨err, herr⟩ : ∃ err, err = (fsPlay s o).1 := ⟨_, rfl⟩
      have HERR := hide herr
      rw [← herr]
      clear herr
      obtain ⟨eb, heb⟩ : ∃ eb, eb = decide (err = 0) := ⟨_, rfl⟩
      have heq : (err == 0) = eb := by rw [heb]; by_cases e : err = 0 <;> simp [e]
      have HEB := hide heb
      clear heb
      have d9 : ((k : Int) == 9) = decide (k = 9) := by
        by_cases e : k = 9
        · subst e; rfl
        · rw [decide_eq_false e]; simpa using fun h : (k : Int) = 9 => e (by omega)
      obtain ⟨ub, hub⟩ : ∃ ub, ub = if k = 9 then decide (o.name ≠ o.other) else pb := ⟨_, rfl⟩
      have HUB := hide hub
      clear hub
      go_upto_if 72 with fail
      go_cut [12] (fun uv wx => uv = .bool ub ∧ w7 = wx)
      case first =>
        by_cases e : k = 9
        · subst e
          by_cases e2 : o.name = o.other
          · have g1 : (o.name == o.other) = true := by simpa using e2
            have g2 : (o.name != o.other) = false := by simpa using e2
            clear d9 i6
            go_wp2
            go_meet
            exact ⟨by rw [HUB.out]; simp [e2], rfl⟩
          · have g1 : (o.name == o.other) = false := by simpa using e2
            have g2 : (o.name != o.other) = true := by simpa using e2
            clear d9 i6
            go_wp2
            go_meet
            exact ⟨by rw [HUB.out]; simp [e2], rfl⟩
        · rw [decide_eq_false e] at d9
          go_wp2
          go_meet
          exact ⟨by rw [HUB.out, if_neg e, HPB.out], rfl⟩
      case rest =>
        obtain ⟨rfl, rfl⟩ := hcut
        have d0 : ((k : Int) == 0) = decide (k = 0) := by
          by_cases e : k = 0
          · subst e; rfl
          · rw [decide_eq_false e]; simpa using fun h : (k : Int) = 0 => e (by omega)
        obtain ⟨cb, hcb⟩ : ∃ cb, cb = decide (k = 0 ∨ (5 < k ∧ k ≠ 9)) := ⟨_, rfl⟩
        have HCB := hide hcb
        clear hcb
        go_upto_region 18 with fail
        go_cut [93] (fun v wx => v = .bool cb ∧ w7 = wx)
        case first =>
          by_cases e0 : k = 0
          · subst e0
            clear d0 d9
            go_wp2
            go_meet
            exact ⟨by rw [HCB.out]; simp, rfl⟩
          · rw [decide_eq_false e0] at d0
            by_cases e5 : 5 < k
            · have g5 : (5 : Int) < k := by omega
              by_cases e9 : k = 9
              · subst e9
                clear d9
                go_wp2
                go_meet
                exact ⟨by rw [HCB.out]; simp, rfl⟩
              · rw [decide_eq_false e9] at d9
                have g9 : ((k : Int) != 9) = true := by simpa using fun h : (k : Int) = 9 => e9 (by omega)
                go_wp2
                go_meet
                exact ⟨by rw [HCB.out, decide_eq_true (.inr ⟨e5, e9⟩)], rfl⟩
            · have g5 : ¬ ((5 : Int) < k) := by omega
              go_wp2
              go_meet
              exact ⟨by rw [HCB.out, decide_eq_false (by omega)], rfl⟩
        case rest =>
          obtain ⟨rfl, rfl⟩ := hcut
          obtain ⟨us, hus⟩ : ∃ us, us = usedO o := ⟨_, rfl⟩
          have HUS := hide hus
          clear hus
          go_upto_if 93 with fail
          go_cut [12] (fun uv wx => uv = .bool us ∧ w7 = wx)
          case first =>
            have huo : Hid (us = if k = 9 then decide (o.name ≠ o.other) else if k = 0 ∨ 5 < k then true else pb) := hide (by
              rw [HUS.out, HPB.out]
              unfold usedO
              rw [← HK.out, ← HOK.out.bn])
            cases cb with
            | true =>
              go_wp2
              go_meet
              have h1 := of_decide_eq_true HCB.out.symm
              exact ⟨by rw [huo.out, if_neg (by omega), if_pos (by omega)], rfl⟩
            | false =>
              go_wp2
              go_meet
              have h1 := of_decide_eq_false HCB.out.symm
              refine ⟨?_, rfl⟩
              rw [huo.out, HUB.out]
              by_cases e9 : k = 9
              · rw [if_pos e9, if_pos e9]
              · rw [if_neg e9, if_neg e9, if_neg (by omega)]
          case rest =>
            obtain ⟨rfl, rfl⟩ := hcut
            obtain ⟨m', hm'⟩ : ∃ m', m' = if err = 0 ∧ us = true then n - 1 else n := ⟨_, rfl⟩
            have HMM := hide hm'
            clear hm' d9 d0 i6 i5 hmod heq
            obtain ⟨ab, hab⟩ : ∃ ab, ab = (decide (err = 0) && us) := ⟨_, rfl⟩
            have HAB := hide hab
            clear hab
            go_upto_region 20 with fail
            go_cut [97] (fun v wx => v = .bool ab ∧ w7 = wx)
            case first =>
              cases eb with
              | true =>
                cases us with
                | true =>
                  go_wp2
                  go_meet
                  exact ⟨by rw [HAB.out, ← HEB.out]; rfl, rfl⟩
                | false =>
                  go_wp2
                  go_meet
                  exact ⟨by rw [HAB.out, ← HEB.out]; rfl, rfl⟩
              | false =>
                go_wp2
                go_meet
                exact ⟨by rw [HAB.out, ← HEB.out]; rfl, rfl⟩
            case rest =>
              obtain ⟨rfl, rfl⟩ := hcut
              go_upto_if 97 with fail
              go_cut [9] (fun v wx => v = .int .i64 m' ∧ w7 = wx)
              case first =>
                cases ab with
                | true =>
                  have h1 : err = 0 ∧ us = true := by have := HAB.out; simpa using this.symm
                  have hmm : m' = n - 1 := by rw [HMM.out, if_pos h1]
                  have HM2 := hide hmm
                  clear h1 hmm
                  go_wp2
                  go_meet
                  exact ⟨by rw [HM2.out], rfl⟩
                | false =>
                  have h1 : ¬ (err = 0 ∧ us = true) := by have := HAB.out; simpa using this.symm
                  have hmm : m' = n := by rw [HMM.out, if_neg h1]
                  have HM2 := hide hmm
                  clear h1 hmm
                  go_wp2
                  go_meet
                  exact ⟨by rw [HM2.out], rfl⟩
              case rest =>
                obtain ⟨rfl, rfl⟩ := hcut
                obtain ⟨hH, hpos, hneg⟩ := halts_round HHL.out hn0 o (by rw [← HK.out]; omega) m' (by rw [HMM.out, HERR.out, HUS.out])
                have hmb : -1 ≤ m' ∧ m' ≤ 29 := by
                  rw [HMM.out]
                  split <;> omega
                obtain ⟨S, hS⟩ : ∃ S, S = (fsPlay s o).2 := ⟨_, rfl⟩
                rw [← hS] at hH hpos hneg HT7
                have HH := hide hH; have HPOS := hide hpos; have HNEG := hide hneg
                clear hH hpos hneg hS HMM HAB HUB HCB HPB HEB HERR
                by_cases hm0 : 0 ≤ m'
                · have g0 : decide (m' < 0) = false := decide_eq_false (by omega)
                  have g1 : ¬ (m' < 0) := by omega
                  go_wp2_with fail
                  refine (fs_plays sb s.free G o w7 HT7.out.b.rep HT7.out.b.ok (HOK.out.low HT7.out.a.low) HLO.out.1 (fun h0 k hk hm => by have := HOK.out.lowB h0 k hk; have := HT7.out.b.up k hm; omega)).mono ?_
                  rintro e w8 ⟨rfl, ht⟩
                  obtain ⟨G8, hT8⟩ := HT7.out.symm.step ht (fsPlay_ok HT7.out.b.ok o)
                  rw [HPOS.out hm0] at hT8
                  have HT8 := hide hT8.symm
                  clear ht hT8 HT7
                  go_wp2_with fail
                  refine (fs_Halted sa S F7 w8 HT8.out.a.rep).mono ?_
                  rintro e w9 ⟨rfl, rfl⟩
                  rw [(HH.out.pos hm0).2]
                  go_wp2
                  exact ⟨⟨i + 1, m', S, F7, G8, by simp, hin, rfl, hmb.1, hmb.2, hide ⟨HT8.out, HH.out⟩⟩, by show L.length - ((i : Int) + 1).toNat < L.length - ((i : Nat) : Int).toNat; omega⟩
                · have hlt : m' < 0 := by omega
                  have g0 : decide (m' < 0) = true := decide_eq_true hlt
                  have hT8 := HT7.out
                  rw [HNEG.out hlt] at hT8
                  have HT8 := hide hT8
                  clear hT8 HT7
                  go_wp2_with fail
                  refine (fs_Halted sa S F7 w7 HT8.out.a.rep).mono ?_
                  rintro e w9 ⟨rfl, rfl⟩
                  rw [HH.out.neg hlt]
                  go_wp2
                  exact ⟨⟨i + 1, m', S, F7, G, by simp, hin, rfl, hmb.1, hmb.2, hide ⟨HT8.out, HH.out⟩⟩, by show L.length - ((i : Int) + 1).toNat < L.length - ((i : Nat) : Int).toNat; omega⟩
    · have T6 := hide hs.out.1
      clear hs
      obtain ⟨X, hX⟩ : ∃ X, X = fsFiles s := ⟨_, rfl⟩
      have hX8 : X.length ≤ 8 := by rw [hX]; exact fsFiles_len T6.out.a.ok
      obtain ⟨nX, hnX⟩ : ∃ n, n = X.length := ⟨_, rfl⟩
      rw [← hnX] at hX8
      have HX := hide hX; have HNX := hide hnX
      obtain ⟨Y, hY⟩ : ∃ Y, Y = fsFiles (fsCrash s K2 t2) := ⟨_, rfl⟩
      have hY8 : Y.length ≤ 8 := by rw [hY]; exact fsFiles_len (fsCrash_ok T6.out.a.ok K2 t2)
      obtain ⟨nY, hnY⟩ : ∃ n, n = Y.length := ⟨_, rfl⟩
      rw [← hnY] at hY8
      have HY := hide hY; have HNY := hide hnY
      clear hX hnX hY hnY
      have hways : (((i : Int) < L.length) ∧ n < 0 ∧ ¬ (0 ≤ n)) ∨ ¬ ((i : Int) < L.length) := by omega
      clear hgo hn1 hn2'
      rcases hways with ⟨i0, j0, j1⟩ | i0
      all_goals
        go_wp2_with fail
        refine (law_Files sa s F wr T6.out.a.rep T6.out.a.ok).mono ?_
        rintro e w9 ⟨a9, c9, L9, rfl, hf9, hc9, hb9⟩
        rw [← HX.out] at hf9 hc9 ⊢
        rw [← HNX.out] at hf9 ⊢
        have HF9 := hide hf9; have HC9 := hide hc9
        have T9 := hide (T6.out.then hb9)
        clear hf9 hc9 hb9 T6
        go_wp2_with fail
        refine (law_Files sb s.free G w9 T9.out.b.rep T9.out.b.ok).mono ?_
        rintro e w10 ⟨a10, c10, L10, rfl, hf10, hc10, hb10⟩
        rw [free_files, ← HX.out] at hf10 hc10 ⊢
        rw [← HNX.out] at hf10 ⊢
        have HF10 := hide hf10; have HC10 := hide hc10
        have T10 := hide (T9.out.then hb10)
        have HFF := hide (HF9.out.low hb10)
        clear hf10 hc10 hb10 T9
        go_wp2_with fail
        refine (ref_SameFiles _ _ a9 a10 nX c9 nX c10 L9 L10 w10 HFF.out (by rw [HNX.out, ← HC9.out, List.length_map]) HF10.out (by rw [HNX.out, ← HC10.out, List.length_map]) (by omega) (by omega)).mono ?_
        rintro e w11 ⟨rfl, hb11⟩
        rw [HC9.out, HC10.out, decide_eq_true rfl]
        have T11 := hide (T10.out.then hb11)
        clear hb11 HFF HF10 HF9 T10 HC9 HC10
        obtain ⟨e0, e1⟩ := hbc.out w11 T11.out.a.low
        go_wp2_with fail
        refine (fs_Crash sa s F a2 n2 c2 t2 K2 w11 T11.out.a.rep T11.out.a.ok (H2.out.low T11.out.a.low) HN2.out (by omega) (fun h0 k hk hm => by have := low2.out h0 k hk; have := T11.out.a.up k hm; omega) lo2 hi2).mono ?_
        rintro e w7 ⟨rfl, ht⟩
        obtain ⟨F7, ht7⟩ := T11.out.step ht (fsCrash_ok T11.out.a.ok K2 t2)
        have T7 := hide ht7
        clear ht ht7 T11 e0 e1
        obtain ⟨e0, e1⟩ := hbc.out w7 T7.out.a.low
        go_wp2_with fail
        refine (fs_Crash sb s.free G a2 n2 c2 t2 K2 w7 T7.out.b.rep T7.out.b.ok (H2.out.low T7.out.b.low) HN2.out (by omega) (fun h0 k hk hm => by have := low2.out h0 k hk; have := T7.out.b.up k hm; omega) lo2 hi2).mono ?_
        rintro e w8 ⟨rfl, ht⟩
        obtain ⟨G8, ht8⟩ := T7.out.symm.step ht (fsCrash_ok T7.out.b.ok K2 t2)
        rw [free_crash] at ht8
        have T8 := hide ht8.symm
        clear ht ht8 T7 e0 e1
        go_wp2_with fail
        refine (law_Files sa _ F7 w8 T8.out.a.rep T8.out.a.ok).mono ?_
        rintro e w9 ⟨a9, c9, L9, rfl, hf9, hc9, hb9⟩
        rw [← HY.out] at hf9 hc9 ⊢
        rw [← HNY.out] at hf9 ⊢
        have HF9 := hide hf9; have HC9 := hide hc9
        have T9 := hide (T8.out.then hb9)
        clear hf9 hc9 hb9 T8
        go_wp2_with fail
        refine (law_Files sb _ G8 w9 T9.out.b.rep T9.out.b.ok).mono ?_
        rintro e w10 ⟨a10, c10, L10, rfl, hf10, hc10, hb10⟩
        rw [← HY.out] at hf10 hc10 ⊢
        rw [← HNY.out] at hf10 ⊢
        have HF10 := hide hf10; have HC10 := hide hc10
        have T10 := hide (T9.out.then hb10)
        have HFF := hide (HF9.out.low hb10)
        clear hf10 hc10 hb10 T9
        go_wp2_with fail
        refine (ref_SameFiles _ _ a9 a10 nY c9 nY c10 L9 L10 w10 HFF.out (by rw [HNY.out, ← HC9.out, List.length_map]) HF10.out (by rw [HNY.out, ← HC10.out, List.length_map]) (by omega) (by omega)).mono ?_
        rintro e w11 ⟨rfl, hb11⟩
        rw [HC9.out, HC10.out, decide_eq_true rfl]
        have T11 := hide (T10.out.then hb11)
        clear hb11 HFF HF10 HF9 T10 HC9 HC10
        go_wp2_with fail
        refine (fs_Halted sa _ F7 w11 T11.out.a.rep).mono ?_
        rintro e w12 ⟨rfl, rfl⟩
        rw [show (fsCrash s K2 t2).halted = false from rfl]
        go_wp2
        go_ret
        exact ⟨rfl, HBB.out.trans (T11.out.a.low.mono HBB.out.size)⟩
end Go.Proofs.Ytnlmoegdienhiaa
