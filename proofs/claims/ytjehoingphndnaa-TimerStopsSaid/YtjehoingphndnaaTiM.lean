/-
  TimerStops (printed by gen_til.py).
-/
import Derived.Test.YtjehoingphndnaaTiL
namespace Go.Proofs.Ytjehoingphndnaa
open Go.RowKit Go.Maps
set_option linter.unusedVariables false
set_option linter.unusedSimpArgs false

theorem u64_info : (Try.prog.info? 27).map (fun i => (i.zero, i.size, i.bytes)) = some (some (.int .u64 0), 1, 8) := by kernel_rfl
abbrev enc64 (n : Nat) : Value := .int .u64 n
abbrev XRow (w : World) (B : Nat) (a : Option Addr) (n c : Nat) (A : List Nat) : Prop := w.ownsRow B 27 1 (.slice a n c) n (A.map enc64)
theorem XRow.get {w : World} {B : Nat} {a : Option Addr} {n c : Nat} {A : List Nat} (h : XRow w B a n c A) {i k : Nat} (hi : A[i]? = some k) : ∃ g, a = some ⟨g, 0, none⟩ ∧ w.cell? ⟨g, i, none⟩ = some (.int .u64 k) ∧ B ≤ g ∧ g < w.heap.size := by
  have hl : A.length = n := by have := h.1; simpa using this
  have hil := (List.getElem?_eq_some_iff.1 hi).1
  have hc := h
  rcases h.2 with ⟨h1, h2⟩ | ⟨g, cap, cur, h1, _⟩
  · omega
  · simp only [Value.slice.injEq] at h1
    obtain ⟨rfl, _, _⟩ := h1
    exact ⟨g, rfl, by rw [World.ownsRow.cellAt hc i (by omega)]; simp [hi], (World.ownsRow.lt hc g rfl).1, (World.ownsRow.lt hc g rfl).2⟩
/-- when a series is due -/
def atOf (m : Runs) (k : Int) : Nat := ((m k).getD (0, 0)).2

set_option maxRecDepth 100000 in
set_option maxHeartbeats 6400000 in
theorem law_TimerStops (w : World) (tk0 : Int) (a0 : 0 ≤ tk0) (a1 : tk0 ≤ 65535) (v : Value) (L : List POp) (hL : RdP w v L) (s : Int) (s0 : 0 ≤ s) (s1 : s ≤ 4294967295) (now : Int) (n0 : 0 ≤ now) (n1 : now ≤ 4294967295) :
    Calls Try.prog 6 #[.int .u16 tk0, v, .int .u32 s, .int .u32 now] w fun e w' => e = .returned (.bool true) ∧ Below w.heap.size w w' := by
  obtain ⟨va, vc, rfl⟩ := hL.head
  have HL := hide hL
  obtain ⟨nl, hn⟩ : ∃ n, n = L.length := ⟨_, rfl⟩
  have HN := hide hn
  rw [← hn]
  obtain ⟨s, rfl⟩ : ∃ n : Nat, s = n := ⟨s.toNat, by omega⟩
  obtain ⟨nw, rfl⟩ : ∃ n : Nat, now = n := ⟨now.toNat, by omega⟩
  obtain ⟨tk0, rfl⟩ : ∃ n : Nat, tk0 = n := ⟨tk0.toNat, by omega⟩
  obtain ⟨tk, htk⟩ : ∃ tk, tk = 1 + tk0 % 1000 := ⟨_, rfl⟩
  have htk1 : 1 ≤ tk ∧ tk ≤ 1000 := by omega
  have htz : (1 : Int) + (tk0 : Int) % 1000 = tk := by omega
  have htz2 : (1 : Int) + (tk0 : Int).tmod 1000 = tk := by rw [Int.tmod_eq_emod_of_nonneg (by omega)]; exact htz
  obtain ⟨iU, hiU, hyU0, hyU1, hyU2⟩ := info_parts u64_info
  clear htk hL hn
  go_enter Try.func6, Try.ntmps6
  by_cases h100 : 60 < nl
  · have h100z : (60 : Int) < nl := by omega
    go_wp2_with (go_at_call 8; refine (ti_known _).mono ?_; rintro e w2 ⟨rfl, hb2⟩; have HB2 := hide hb2; clear hb2)
    go_ret
    exact ⟨rfl, HB2.out⟩
  have h100z : ¬ (60 : Int) < nl := by omega
  go_wp2_with (first
    | (go_at_call 8; refine (ti_known _).mono ?_; rintro e w2 ⟨rfl, hb2⟩; have HB2 := hide hb2; clear hb2))
  refine (tm_New tk htk1.1 htk1.2 w2).mono ?_
  rintro e w3 ⟨ta, F, rfl, ht3, hF, hb3⟩
  have H4 : Hid (Own1 w w3 ta tk (fun _ => none) 0 []) := hide ⟨F, ht3, fun k hk => Nat.le_trans HB2.out.size (hF k hk), HB2.out.trans (hb3.mono HB2.out.size), fun q hq => (by cases hq)⟩
  clear ht3 hF hb3 HB2 F
  go_wp2_with fail
  go_loopw [10] (fun iv wr => ∃ (i : Nat) (m : Runs), iv = .int .i64 i ∧ i ≤ nl ∧ Hid (Own1 w wr ta tk m i []) ∧ Hid (MBound m i)) (fun iv _ => match iv with | .int _ j => nl - j.toNat | _ => 0)
  case atStart => exact ⟨0, _, rfl, Nat.zero_le _, H4, hide fun k r h => (by cases h)⟩
  case round =>
    clear H4
    obtain ⟨i, m, rfl, hi, HOA, hB⟩ := hrel
    by_cases hin : i < nl
    · obtain ⟨p, hp⟩ : ∃ p, L[i]? = some p := ⟨_, List.getElem?_eq_getElem (by have := HN.out; omega)⟩
      obtain ⟨b, o, c, hv, c0, c1, c2, hbl⟩ := HL.out.get hp
      simp only [Value.slice.injEq] at hv
      obtain ⟨rfl, _, rfl⟩ := hv
      have hok := HL.out.ok p (List.mem_of_getElem? hp)
      obtain ⟨kd, k, now⟩ := p
      simp only at c0 c1 c2
      have HCL : Hid (∀ w', Below w.heap.size w w' → w'.cell? ⟨b, o + i * 3, none⟩ = some (.int .u8 kd) ∧ w'.cell? ⟨b, o + i * 3 + 1, none⟩ = some (.int .u32 k) ∧ w'.cell? ⟨b, o + i * 3 + 2, none⟩ = some (.int .u64 now)) := hide fun w' hb => ⟨(hb.cell (p := ⟨b, _, none⟩) hbl).trans c0, (hb.cell (p := ⟨b, _, none⟩) hbl).trans c1, (hb.cell (p := ⟨b, _, none⟩) hbl).trans c2⟩
      have hkd : kd ≤ 255 := hok.1
      have hkk : k < 4294967296 := hok.2.1
      have HBN : Hid (now < Md) := hide hok.2.2
      obtain ⟨ks, hks⟩ : ∃ ks : List (Nat × Obj), ks = [] := ⟨_, rfl⟩
      rw [← hks] at HOA
      have HKS := hide hks
      have HBD : Hid (∀ k r, m k = some r → r.1 ≤ 200) := hide fun k r hr => by have := hB.out k r hr; omega
      clear hp hok c0 c1 c2 hks
      go_upto_region 9 with fail
      refine wp_region_three 7 167 (by kernel_rfl) (by kernel_rfl) rfl (by kernel_rfl) (fun D v w' => DoesS w ta tk i m kd k now ks D v w') (fun _ => undef) (DoesS.start (HOA.out.low (Below.refl _ _).drew)) ?_
      simp only [List.take_succ_cons, List.take_zero, List.drop_succ_cons, List.drop_zero]
      iterate 1 (refine Hav3.read (e := ?_) (fun v => by rfl) (fun D v w h => ⟨h.a, h.b, h.c, h.low⟩) (fun D v w' hD hS => ?_) ?_; rotate_left; (clear hS hD; first | (go_simp; done) | (go_simp; with_reducible rfl)); go_simp)
      refine Hav3.rel (fun v => by rfl) (fun D v w' hD hS => ?_) ?_
      · have d1 : D 1 = false := hD.self
        have D6 : Hid (D 6 = false) := hide (hD.post 6 _ rfl (by kernel_rfl))
        have HA := hide (hS.a d1)
        clear hS hD d1
        go_simp
        go_at_call 13
        refine (rt_New 1 (by decide) (by decide) w').mono ?_
        rintro e w'' ⟨rb, Fr, rfl, hr, hb⟩
        exact ⟨fun h => (by cases h), fun _ _ => ⟨rb, rfl, HA.out.new hr hb⟩, fun h => (by rw [show mark D 1 6 = D 6 from rfl, D6.out] at h; cases h), HA.out.base.trans (hb.mono HA.out.base.size)⟩
      go_simp
      iterate 3 (refine Hav3.read (e := ?_) (fun v => by rfl) (fun D v w h => ⟨h.a, h.b, h.c, h.low⟩) (fun D v w' hD hS => ?_) ?_; rotate_left; (clear hS hD; first | (go_simp; done) | (go_simp; with_reducible rfl)); go_simp)
      iterate 1 (refine Hav3.read (e := ?_) (fun v => by rfl) (fun D v w h => ⟨h.a, h.b, h.c, h.low⟩) (fun D v w' hD hS => ?_) ?_; rotate_left; (obtain ⟨f0, f1, f2⟩ := HCL.out w' hS.low; clear hS hD; first | (go_simp; done) | (go_simp; with_reducible rfl)); go_simp)
      refine Hav3.rel (fun v => by rfl) (fun D v w' hD hS => ?_) ?_
      · have d1 : D 1 = true := hD.pre 1 (by kernel_rfl)
        have d6 : D 6 = false := hD.self
        obtain ⟨rb, h1, h2⟩ := hS.b d1 d6
        have H2 := hide h2
        have D1 := hide d1
        rw [h1]
        clear hS hD h1 h2 d1 d6
        go_simp
        go_at_call 12
        refine (ti_does w ta tk i rb 1 m [] 200 kd k now ks hkd hkk HBN.out htk1.2 (by decide) (by omega) ⟨?_, fun p hp => (by cases hp), by decide⟩ (by decide) w' H2.out).mono ?_
        · exact HBD.out
        rintro e w'' ⟨⟨b, rfl, _⟩, h3⟩
        exact ⟨fun h => (by rw [show mark D 6 1 = D 1 from rfl, D1.out] at h; cases h), fun _ h => (by cases h), fun _ => h3.own, h3.base⟩
      go_simp
      refine Hav3.fin (fun v w' hS => ?_)
      have HO := hide (hS.c rfl)
      clear hS
      have HO2 := hide HO.out
      rw [HKS.out] at HO2
      clear HO HOA HBD
      go_wp2
      refine ⟨⟨i + 1, _, by simp, hin, HO2, hide (hB.out.step tk kd k now)⟩, ?_⟩
      show nl - ((i : Int) + 1).toNat < nl - ((i : Nat) : Int).toNat
      omega
    · obtain rfl : i = nl := by omega
      obtain ⟨F, hT, hFw, hbw, hq0⟩ := HOA.out.of
      obtain ⟨w1, hw1⟩ : ∃ w1, w1 = wr := ⟨_, rfl⟩
      rw [← hw1] at hT hbw ⊢
      have HT := hide hT; have HFW := hide hFw; have HBW := hide hbw
      have hFl := hide hT.lt
      clear HOA hT hFw hbw hw1 hq0 wr
      go_wp2
      -- what each one is
      go_loopw [11, 12, 13, 14] (fun av iv _ _ wr => ∃ (j : Nat) (a : Option Addr) (n c : Nat) (A : List Nat), av = .slice a n c ∧ iv = .int .i64 j ∧ j ≤ i ∧ n = j ∧ Hid (A = (L.take j).map fun p => atOf m p.2.1) ∧ Hid (XRow wr w1.heap.size a n c A) ∧ Hid (Below w1.heap.size w1 wr)) (fun _ iv _ _ _ => match iv with | .int _ j => i - j.toNat | _ => 0)
      case atStart => exact ⟨0, none, 0, 0, [], rfl, rfl, Nat.zero_le _, rfl, hide rfl, hide (World.ownsRow_nil _ _ _ _), hide (Below.refl _ _)⟩
      case round =>
        obtain ⟨j, a, n, c, A, rfl, rfl, hj, rfl, hA, hX, hb⟩ := hrel
        by_cases hji : n < i
        · obtain ⟨p, hp⟩ : ∃ p, L[n]? = some p := ⟨_, List.getElem?_eq_getElem (by have := HN.out; omega)⟩
          have hbw2 := HBW.out.trans (hb.out.mono HBW.out.size)
          obtain ⟨b, o, c', hv, c0, c1, c2, hbl⟩ := (HL.out.low hbw2).get hp
          simp only [Value.slice.injEq] at hv
          obtain ⟨rfl, _, rfl⟩ := hv
          have hok := HL.out.ok p (List.mem_of_getElem? hp)
          obtain ⟨kd, k, now⟩ := p
          simp only at c0 c1 c2
          have hkk : k < 4294967296 := hok.2.1
          have HP := hide hp
          clear hp hok c0 c2 hbw2
          go_wp2_with fail
          refine (tm_At ta tk i m F k hkk wr (HT.out.low hb.out)).mono ?_
          rintro e w4 ⟨rfl, hb4⟩
          have HB4 := hide (hb.out.trans (hb4.mono hb.out.size))
          have hX4 : Hid (∀ o, (w4.alloc o).ownsRow w1.heap.size 27 1 (.slice a n c) n (A.map enc64)) := hide fun o => (ownsRow_below hX.out hb4 (Nat.le_refl _)).alloc o
          obtain ⟨av, hav⟩ : ∃ av, av = atOf m k := ⟨_, rfl⟩
          rw [show (.int .u64 (((m (k : Int)).getD (0, 0)).2 : Nat) : Value) = .int .u64 av by rw [hav]; rfl]
          generalize (m (k : Int)).isSome = bs
          have HAV := hide hav
          have hsz := HB4.out.size
          clear hb4 hav c1
          go_wp2_with (at_builtin; refine wpList_append_rd rfl (.tmp 71) (.tmp 73) 42 rfl w1.heap.size 27 iU (.int .u64 0) 1 8 Try.underlying42 hiU hyU0 hyU1 hyU2 rfl (by decide) (.slice a n c) n (A.map enc64) rfl (hX4.out _) _ 1 [.int .u64 av] rfl (rd_new3 _ _ _ _ 1 1 (by simp) (by simp) (by simp)) (by simp [Value.oneCell']) (by unfold maxLen; omega) (by omega) (by simp; omega) ?_; intro v1 w5 hown hgr hnil hv; obtain ⟨oa1, oc1, rfl⟩ := row1_slice hown; have HOWN := hide hown; have HGR := hide hgr; clear hown hgr hnil hv)
          refine ⟨⟨n + 1, oa1, n + 1, oc1, A ++ [av], by simp, by simp, hji, rfl, hide ?_, hide ?_, hide ?_⟩, ?_⟩
          · rw [List.take_add_one, HP.out, List.map_append, ← hA.out, HAV.out]; rfl
          · show w5.ownsRow _ _ _ _ _ ((A ++ [av]).map enc64)
            rw [List.map_append]; exact HOWN.out
          · have hx1 := HB4.out.trans ((below_alloc w4 (.cells #[.int .u64 av] 27)).mono HB4.out.size)
            exact hx1.grown HGR.out hx1.size fun q hq => ((hX4.out (.cells #[.int .u64 av] 27)).lt q hq).1
          · show i - ((n : Int) + 1).toNat < i - ((n : Nat) : Int).toNat
            omega
        · obtain rfl : n = i := by omega
          obtain ⟨w5, hw5⟩ : ∃ w5, w5 = wr := ⟨_, rfl⟩
          rw [← hw5] at hX hb ⊢
          clear hw5 wr
          have HT5 := hide (HT.out.low hb.out)
          have hA2 : Hid (A = L.map fun p => atOf m p.2.1) := hide (by rw [hA.out, HN.out, List.take_length])
          have hC5 : Hid (Chg F F w1 w5) := hide (Chg.of_below hb.out)
          clear hA
          go_wp2_with fail
          refine (tm_At ta tk n m F s (by omega) w5 HT5.out).mono ?_
          rintro e w6 ⟨rfl, hb6⟩
          have HT6 := hide (HT5.out.low hb6)
          have hC6 : Hid (Chg F F w1 w6) := hide (hC5.out.trans (Chg.of_below hb6))
          have hX6 : Hid (XRow w6 w1.heap.size a n c A) := hide (ownsRow_below hX.out hb6 (Nat.le_refl _))
          obtain ⟨ran, hran⟩ : ∃ ran, ran = (m (s : Int)).isSome := ⟨_, rfl⟩
          rw [← hran]
          have HRAN := hide hran
          generalize (((m (s : Int)).getD (0, 0)).2 : Nat) = av6
          clear hb6 hran hX HT5 hC5 hb
          go_wp2_with fail
          have hst := tm_Stop ta tk n m F s (by omega) w6 HT6.out
          rw [← HRAN.out] at hst
          refine hst.mono ?_
          rintro e w7 ⟨rfl, ht7, hc7⟩
          have HT7 := hide ht7
          have hC7 := hide (hC6.out.trans hc7)
          have hX7 : Hid (XRow w7 w1.heap.size a n c A) := hide (ownsRow_same hX6.out fun q hq => hc7.block q (hX6.out.lt q hq).2 fun hf => by have := hFl.out q hf; have := (hX6.out.lt q hq).1; omega)
          obtain ⟨m7, hm7⟩ : ∃ m7, m7 = setR m (s : Int) none := ⟨_, rfl⟩
          rw [← hm7] at HT7
          have HM7 := hide hm7
          clear hst ht7 hc7 hm7 HT6 hC6 hX6
          go_wp2_with fail
          refine (tm_At ta tk n m7 F s (by omega) w7 HT7.out).mono ?_
          rintro e w8 ⟨rfl, hb8⟩
          have HT8 := hide (HT7.out.low hb8)
          have hC8 : Hid (Chg F F w1 w8) := hide (hC7.out.trans (Chg.of_below hb8))
          have hX8 : Hid (XRow w8 w1.heap.size a n c A) := hide (ownsRow_below hX7.out hb8 (Nat.le_refl _))
          have hms : m7 (s : Int) = none := by rw [HM7.out]; simp [setR]
          rw [hms]
          have HMS := hide hms
          rw [show (.bool (none : Option Run).isSome : Value) = .bool false from rfl]
          generalize (((none : Option Run).getD (0, 0)).2 : Nat) = av8
          clear hb8 hms HT7 hC7 hX7
          go_wp2_with fail
          have hbase : Hid (∀ w', Chg F F w1 w' → Below w.heap.size w w') := hide fun w' hc => HBW.out.trans (hc.below HBW.out.size HFW.out)
          have hother : Hid (∀ k : Nat, k ≠ s → atOf m7 k = atOf m k) := hide fun k hk => by
            unfold atOf
            rw [HM7.out]
            unfold setR
            rw [if_neg (by omega)]
          go_loopw [20, 21, 22] (fun jv _ _ wx => ∃ j : Nat, jv = .int .i64 j ∧ j ≤ n ∧ Hid (TM wx ta tk m7 n F) ∧ Hid (Chg F F w1 wx) ∧ Hid (XRow wx w1.heap.size a n c A)) (fun jv _ _ _ => match jv with | .int _ j => n - j.toNat | _ => 0)
          case atStart => exact ⟨0, rfl, Nat.zero_le _, HT8, hC8, hX8⟩
          case round =>
            clear HT8 hC8 hX8
            obtain ⟨j, rfl, hj, HT8, hC8, hX8⟩ := hrel
            by_cases hjn : j < n
            · obtain ⟨p, hp⟩ : ∃ p, L[j]? = some p := ⟨_, List.getElem?_eq_getElem (by have := HN.out; omega)⟩
              obtain ⟨b, o, c', hv, c0, c1, c2, hbl⟩ := HL.out.get hp
              simp only [Value.slice.injEq] at hv
              obtain ⟨rfl, _, rfl⟩ := hv
              have hok := HL.out.ok p (List.mem_of_getElem? hp)
              obtain ⟨kd, k, now⟩ := p
              simp only at c0 c1 c2
              have hkk : k < 4294967296 := hok.2.1
              have HCL : Hid (∀ w', Chg F F w1 w' → w'.cell? ⟨b, o + j * 3 + 1, none⟩ = some (.int .u32 k)) := hide fun w' hc => ((hbase.out w' hc).cell (p := ⟨b, _, none⟩) hbl).trans c1
              have hAj : A[j]? = some (atOf m k) := by rw [hA2.out, List.getElem?_map, hp]; rfl
              have HAJ := hide hAj
              have d1 := HCL.out _ hC8.out
              clear hp hok c0 c1 c2 hAj
              go_wp2_with fail
              refine (tm_At ta tk n m7 F k hkk _ HT8.out).mono ?_
              rintro e w9 ⟨rfl, hb9⟩
              have HT9 := hide (HT8.out.low hb9)
              have hC9 : Hid (Chg F F w1 w9) := hide (hC8.out.trans (Chg.of_below hb9))
              have hX9 : Hid (XRow w9 w1.heap.size a n c A) := hide (ownsRow_below hX8.out hb9 (Nat.le_refl _))
              have d2 := HCL.out _ hC9.out
              obtain ⟨g, hga, d3, _, _⟩ := hX9.out.get HAJ.out
              subst hga
              rw [show (.int .u64 (((m7 (k : Int)).getD (0, 0)).2 : Nat) : Value) = .int .u64 (atOf m7 k : Nat) from rfl]
              generalize (m7 (k : Int)).isSome = bs
              have hend : Hid ((∃ j' : Nat, Value.int .i64 ((j : Int) + 1) = .int .i64 j' ∧ j' ≤ n ∧ Hid (TM w9 ta tk m7 n F) ∧ Hid (Chg F F w1 w9) ∧ Hid (XRow w9 w1.heap.size (some ⟨g, 0, none⟩) n c A)) ∧ n - ((j : Int) + 1).toNat < n - ((j : Nat) : Int).toNat) := hide ⟨⟨j + 1, by simp, hjn, HT9, hC9, hX9⟩, by omega⟩
              clear hb9 d1
              by_cases hks : k = s
              · have hkb : ((k : Int) == s) = true := by simpa using (by omega : (k : Int) = s)
                generalize (atOf m7 k : Nat) = av
                generalize (atOf m k : Nat) = av' at d3
                go_wp2
                exact hend.out
              · have hkb : ((k : Int) == s) = false := by simpa using (by omega : ¬ (k : Int) = s)
                rw [hother.out k hks]
                generalize (atOf m k : Nat) = av at d3 ⊢
                go_wp2
                exact hend.out
            · obtain rfl : j = n := by omega
              go_wp2_with fail
              refine (ti_Due ta tk j m7 F 18446744073709551615 (by decide) htk1.2 (by omega) (fun k r hr => ?_) _ HT8.out).mono ?_
              · rw [HM7.out] at hr
                unfold setR at hr
                split at hr
                · cases hr
                · have := hB.out k r hr; omega
              rintro e w10 ⟨L2, a2, c2, rfl, hrow, hpw, hmem, hlen, ht10, hc10⟩
              have HT10 := hide ht10
              have hC10 := hide (hC8.out.trans hc10)
              have HROW := hide hrow
              have HNS : Hid ((s : Int) ∉ L2) := hide fun h => by
                obtain ⟨r, h1, _⟩ := (hmem _).1 h
                rw [HMS.out] at h1; cases h1
              obtain ⟨n2, hn2⟩ : ∃ n2, n2 = L2.length := ⟨_, rfl⟩
              rw [← hn2] at HROW hlen ⊢
              have HN2 := hide hn2
              generalize bumped tk 18446744073709551615 m7 L2 = m10 at HT10
              clear hrow hpw hmem ht10 hc10 HT8 hC8 hX8 hn2
              go_wp2
              go_loopw [24] (fun jv wx => ∃ q : Nat, jv = .int .i64 q ∧ q ≤ n2 ∧ w10 = wx) (fun jv _ => match jv with | .int _ q => n2 - q.toNat | _ => 0)
              case atStart => exact ⟨0, rfl, Nat.zero_le _, rfl⟩
              case round =>
                obtain ⟨q, rfl, hq, rfl⟩ := hrel
                by_cases hqn : q < n2
                · obtain ⟨k2, hk2⟩ : ∃ k2, L2[q]? = some k2 := ⟨_, List.getElem?_eq_getElem (by have := HN2.out; omega)⟩
                  obtain ⟨g2, rfl, d4⟩ := WRow.get HROW.out hk2
                  have hne : (k2 == (s : Int)) = false := by
                    simp only [beq_eq_false_iff_ne]
                    intro e
                    exact HNS.out (e ▸ List.mem_of_getElem? hk2)
                  clear hk2
                  go_wp2
                  refine ⟨⟨q + 1, by simp, hqn, by first | trivial | rfl⟩, ?_⟩
                  show n2 - ((q : Int) + 1).toNat < n2 - ((q : Nat) : Int).toNat
                  omega
                · have hmod : (nw + tk) % Md = nw + tk := Nat.mod_eq_of_lt (by unfold Md; omega)
                  go_wp2_with fail
                  refine (tm_Again ta tk j m10 F s nw (by omega) (by unfold Md; omega) htk1.2 (by omega) _ HT10.out).mono ?_
                  rintro e w11 ⟨rfl, ht11, hc11⟩
                  rw [hmod] at ht11
                  have HT11 := hide ht11
                  have hC11 := hide (hC10.out.trans hc11)
                  clear ht11 hc11 hmod
                  go_wp2_with fail
                  refine (tm_At ta tk (j + 1) _ F s (by omega) _ HT11.out).mono ?_
                  rintro e w12 ⟨rfl, hb12⟩
                  have hC12 := hide (hbase.out _ (hC11.out.trans (Chg.of_below hb12)))
                  have e1 : setR m10 (s : Int) (some (0, nw + tk)) (s : Int) = some (0, nw + tk) := by simp [setR]
                  rw [e1]
                  rw [show (.int .u64 (((some ((0, nw + tk) : Run)).getD (0, 0)).2 : Nat) : Value) = .int .u64 ((nw + tk : Nat) : Int) from rfl, show (.bool (some ((0, nw + tk) : Run)).isSome : Value) = .bool true from rfl]
                  clear hb12 e1
                  go_wp2
                  go_ret
                  exact ⟨rfl, hC12.out⟩
end Go.Proofs.Ytjehoingphndnaa
