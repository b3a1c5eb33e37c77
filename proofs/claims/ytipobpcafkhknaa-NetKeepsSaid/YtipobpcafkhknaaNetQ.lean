/-
  The walk of the law NetTakes: the way on which things are sent.
-/
import Derived.Test.YtipobpcafkhknaaNetP
namespace Go.Proofs.Ytipobpcafkhknaa
open Go.RowKit
set_option linter.unusedSimpArgs false
set_option linter.unusedVariables false

set_option maxRecDepth 100000 in
set_option maxHeartbeats 3200000 in
theorem law_takes_goes (v : Value) (L : List Item) (i : Int) (W : World) (hL : RdItems W 6 v L) (hop : ∀ t ∈ L, IsOp t) (hl : L.length ≤ 9223372036854775807) (hlb : ∀ t ∈ L, t.b.length ≤ 9223372036854775807) (hh : heavyB L = false) :
    Calls Try.prog 4 #[v, .int .i64 i] W fun e w' => e = .returned (.bool true) ∧ Below W.heap.size W w' := by
  obtain ⟨av, cv, rfl⟩ := hL.row.head
  have h80 : L.length ≤ 80 := by simp [heavyB] at hh; omega
  have HL := hide hL; have HO := hide hop; have HB := hide hlb; have HH := hide hh
  clear hL hop hlb hh
  go_enter Try.func4, Try.ntmps4
  go_wp2_with fail
  refine (law_heavy _ L _ HL.out HO.out hl HB.out).mono ?_
  rintro e w' ⟨rfl, rfl⟩
  rw [HH.out]
  go_wp2_with fail
  refine (law_known _).mono ?_
  rintro e w1 ⟨rfl, hb1⟩
  go_wp2_with fail
  refine (net_new _).mono ?_
  rintro e w2 ⟨rfl, rfl⟩
  obtain ⟨F, hr, hf, hb⟩ := net_new_at w1
  obtain ⟨nb, hnb⟩ : ∃ nb, nb = w1.heap.size := ⟨_, rfl⟩
  have n0 : NetAt W nb [] (w1.alloc (.cells #[.slice none 0 0] 50)) := ⟨F, by rw [hnb]; exact hr, fun k hk => Nat.le_trans hb1.size (hf k hk), hb1.trans (hb.mono hb1.size)⟩
  have HN := hide n0
  rw [← hnb]
  clear hr hf hb hb1 n0 hnb
  generalize w1.alloc (.cells #[.slice none 0 0] 50) = w2 at *
  clear F w1
  go_wp2
  go_loopw [6] (fun i wr => ∃ (k : Nat) (l : List G), k ≤ L.length ∧ i = .int .i64 k ∧ l.length ≤ k ∧ Hid (NetAt W nb l wr ∧ ∀ g ∈ l, g.b.length ≤ 4096 ∧ 0 ≤ g.to ∧ g.to ≤ 1)) (fun i _ => L.length - (intOf i).toNat)
  case atStart => exact ⟨0, [], Nat.zero_le _, rfl, by simp, HN.out, fun g h => by cases h⟩
  case round =>
    obtain ⟨k, l, hk, rfl, hrl, hN⟩ := hrel
    by_cases hlt : k < L.length
    · have hg : L[k]? = some L[k] := List.getElem?_eq_getElem hlt
      obtain ⟨t, ht⟩ : ∃ t, t = L[k] := ⟨_, rfl⟩
      rw [← ht] at hg
      have hm := List.mem_of_getElem? hg
      have hLr := HL.out.low hN.out.1.base
      obtain ⟨bb, off, c, k', to', i', at_, x, ax, cx, hv, hx, _, _, p1, p2, p3, p4, _, _, _, _, _, _, q0, q1, q2, q3, q4, q5, hrd, hbb⟩ := opCells hLr (HO.out t hm) hg
      simp only [Value.slice.injEq, true_and] at hv
      obtain ⟨rfl, rfl⟩ := hv
      have htb := HB.out t hm
      have HRD := hide hrd
      have s1 : ∀ w', Below wr.heap.size wr w' → w'.cell? ⟨bb, off + k * 6 + 1, none⟩ = some (.int .u8 to') := fun w' h => (h.cell (p := ⟨bb, off + k * 6 + 1, none⟩) hbb).trans q1
      have s2 : ∀ w', Below wr.heap.size wr w' → w'.cell? ⟨bb, off + k * 6 + 2, none⟩ = some (.slice ax t.b.length cx) := fun w' h => (h.cell (p := ⟨bb, off + k * 6 + 2, none⟩) hbb).trans q2
      have i1 : (0 : Int) ≤ (k : Int) := by omega
      have i2 : (k : Int) < (L.length : Int) := by omega
      clear hrd hLr q0 q1 q2 q3 q4 q5 hx hg ht hm
      go_wp2_with fail
      refine wp_region_new 12 132 (by kernel_rfl) (by kernel_rfl) rfl (by kernel_rfl) (fun w' => Below wr.heap.size wr w') (Below.refl _ _) (fun w w' h1 h2 => h2.trans (h1.mono h2.size)) (fun h => h.drew) ?_
      simp only [List.take_succ_cons, List.take_zero, List.drop_succ_cons, List.drop_zero]
      iterate 12 (refine Hav.read (e := ?_) (fun v => by rfl) (fun v w' hS hF => ?_) ?_; rotate_left; (first | (go_simp; done) | (go_simp; with_reducible rfl)); go_simp)
      refine Hav.fin (fun v w' hS hF => ?_)
      have hN' := hN.out.1.low hS
      have hrd' := HRD.out.low hS
      have HN' := hide hN'
      have HRD' := hide hrd'
      have HNG := hide hN.out.2
      clear hF hN' hrd' hS s1 s2 HRD hN
      go_wp2_with fail
      refine (net_send_any W nb _ (to' % 2) _ t.b w' HN'.out (by omega) HRD'.out htb (by omega)).mono ?_
      rintro e w5 ⟨r, rfl, rest', hr1, hr2, hN5⟩
      have hN6 : Hid (NetAt W nb (l ++ rest') w5 ∧ ∀ g ∈ l ++ rest', g.b.length ≤ 4096 ∧ 0 ≤ g.to ∧ g.to ≤ 1) := ⟨hN5, fun g hg => by
        rcases List.mem_append.1 hg with hg | hg
        · exact HNG.out g hg
        · exact hr2 g hg⟩
      clear hN5 hr2
      go_wp2
      go_roundw
      case rel => exact ⟨k + 1, l ++ rest', by omega, by go_num, by simp; omega, hN6⟩
      case measure => simp [intOf]; omega
    · obtain ⟨⟨F, hr, hf, hbel⟩, hgs⟩ := hN.out
      have HR := hide hr; have HF := hide hf; have HBL := hide hbel; have HGS := hide hgs
      have hl4 : l.length ≤ 4096 := by omega
      clear hr hf hbel hgs hN
      go_wp2_with fail
      refine (net_grams nb l F wr HR.out hl4 (fun g hg => (HGS.out g hg).1)).mono ?_
      rintro e wa ⟨vw, Lw, rfl, hIw, hkw, hfw, hbw⟩
      have HIW := hide hIw; have HKW := hide hkw; have HFW := hide hfw; have HBA := hide hbw
      clear hIw hkw hfw hbw
      go_wp2_with fail
      refine (net_grams nb l F wa (HR.out.below HBA.out) hl4 (fun g hg => (HGS.out g hg).1)).mono ?_
      rintro e wb ⟨vt, Lt, rfl, hIt, hkt, hft, hbt⟩
      have hsh : ∀ s ∈ Lt.map Item.shape, GramShape s := by
        intro s hs
        obtain ⟨t, ht, rfl⟩ := List.mem_map.1 hs
        obtain ⟨j, hj⟩ := List.mem_iff_getElem?.1 ht
        have e1 := congrArg (fun l => l[j]?) hkt
        simp only [List.getElem?_map, hj, Option.map_some] at e1
        obtain ⟨g, hg, hge⟩ := Option.map_eq_some_iff.1 e1.symm
        simp only [G.key, Item.key, Prod.mk.injEq] at hge
        refine ⟨⟨g.to, hge.1.symm⟩, hge.2.1.symm, ?_⟩
        simp only [Item.shape]
        rw [← hge.2.2]; exact (HGS.out g (List.mem_of_getElem? hg)).1
      have hTR : TurnRel wb vt (Lt.map Item.shape) (itFp vt Lt) wb := ⟨Lt, hIt, rfl, rfl, Chg.refl _ _⟩
      obtain ⟨FT, hFT⟩ : ∃ FT, FT = itFp vt Lt := ⟨_, rfl⟩
      have hsl : (Lt.map Item.shape).length = l.length := by have := congrArg List.length hkt; simpa using this
      obtain ⟨sh, hshe⟩ : ∃ sh, sh = Lt.map Item.shape := ⟨_, rfl⟩
      rw [← hshe] at hsh hTR hsl
      rw [← hFT] at hTR hft
      obtain ⟨at_, ct, rfl⟩ := hTR.head
      have hsl2 : sh.length ≤ 4096 := by omega
      have HTR := hide hTR; have HFT := hide hft; have HBB := hide hbt; have HSH := hide hsh; have HSL := hide hsl
      clear hsl hIt hkt hft hbt hTR hFT hsh hshe Lt
      obtain ⟨wz, rfl⟩ : ∃ wz : World, wz = wr := ⟨_, rfl⟩
      go_wp2
      go_loopw [9] (fun i wc => ∃ (k : Nat), k ≤ sh.length ∧ i = .int .i64 k ∧ Hid (TurnRel wb (.slice at_ sh.length ct) sh FT wc)) (fun i _ => sh.length - (intOf i).toNat)
      case atStart => exact ⟨0, Nat.zero_le _, rfl, HTR⟩
      case round =>
        obtain ⟨kk, hkk, rfl, hT⟩ := hrel
        by_cases hlt2 : kk < sh.length
        · obtain ⟨s, hs⟩ : ∃ s, sh[kk]? = some s := ⟨_, List.getElem?_eq_getElem hlt2⟩
          have hgs := HSH.out s (List.mem_of_getElem? hs)
          obtain ⟨g, cap, ax, cx, hv, hsx, q1, hgl⟩ := hT.out.get hs hgs
          simp only [Value.slice.injEq, true_and] at hv
          obtain ⟨rfl, rfl⟩ := hv
          obtain ⟨m, hm⟩ : ∃ m, m = s.2.2.2 := ⟨_, rfl⟩
          have hm4 : m ≤ 4096 := by rw [hm]; exact hgs.2.2
          have HM := hide hm; have HSX := hide hsx; have HS := hide hs; have HGS2 := hide hgs
          rw [← hm] at q1
          have i1 : (0 : Int) ≤ (kk : Int) := by omega
          have i2 : (kk : Int) < (sh.length : Int) := by omega
          clear hsx hs hgs hm q1
          obtain ⟨wo, rfl⟩ : ∃ wo : World, wo = wr := ⟨_, rfl⟩
          go_wp2
          go_loopw [10] (fun i wc => ∃ (j : Nat), j ≤ m ∧ i = .int .i64 j ∧ Hid (TurnRel wb (.slice (some ⟨g, 0, none⟩) sh.length ct) sh FT wc)) (fun i _ => m - (intOf i).toNat)
          case atStart => exact ⟨0, Nat.zero_le _, rfl, hT⟩
          case round =>
            obtain ⟨jj, hjj, rfl, hT2⟩ := hrel
            obtain ⟨g', cap', ax', cx', hv', hsx', q1', hgl'⟩ := hT2.out.get HS.out HGS2.out
            simp only [Value.slice.injEq, Option.some.injEq, Addr.mk.injEq, and_true, true_and] at hv'
            obtain ⟨rfl, rfl⟩ := hv'
            obtain ⟨rfl, rfl⟩ : ax' = ax ∧ cx' = cx := by
              rw [HSX.out] at hsx'
              simp only [Value.slice.injEq, true_and] at hsx'
              exact ⟨hsx'.1.symm, hsx'.2.symm⟩
            rw [← HM.out] at q1'
            clear hsx'
            by_cases hltj : jj < m
            · obtain ⟨gb, y, rfl, hgb, y1, y2, hgbl⟩ := hT2.out.byte HS.out HSX.out rfl (by rw [← HM.out]; exact hltj)
              have s0 : ∀ w', Below wr.heap.size wr w' → w'.cell? ⟨g, kk * 2 + 1, none⟩ = some (.slice (some ⟨gb, 0, none⟩) m cx') := fun w' h => (h.cell (p := ⟨g, kk * 2 + 1, none⟩) hgl').trans q1'
              have s1 : ∀ w', Below wr.heap.size wr w' → w'.cell? ⟨gb, jj, none⟩ = some (.int .u8 y.toNat) := fun w' h => (h.cell (p := ⟨gb, jj, none⟩) hgbl).trans y1
              have s2 : ∀ w', Below wr.heap.size wr w' → w'.frozen? ⟨gb, jj, none⟩ = false := fun w' h => (h.frozen (p := ⟨gb, jj, none⟩) hgbl).trans y2
              have j1 : (0 : Int) ≤ (jj : Int) := by omega
              have j2 : (jj : Int) < (m : Int) := by omega
              go_wp2_with fail
              refine wp_region_new 16 132 (by kernel_rfl) (by kernel_rfl) rfl (by kernel_rfl) (fun w' => Below wr.heap.size wr w') (Below.refl _ _) (fun w w' h1 h2 => h2.trans (h1.mono h2.size)) (fun h => h.drew) ?_
              simp only [List.take_succ_cons, List.take_zero, List.drop_succ_cons, List.drop_zero]
              iterate 16 (refine Hav.read (e := ?_) (fun v => by rfl) (fun v w' hS hF => ?_) ?_; rotate_left; (first | (go_simp; done) | (go_simp; with_reducible rfl)); go_simp)
              refine Hav.fin (fun v w' hS hF => ?_)
              have z1 := s1 w' hS
              have z2 := s2 w' hS
              have hT3 := (hT2.out.low hS).write (j := jj) HS.out HSX.out (y ^^^ 255)
              have hyb : y.toNat < 256 := y.toNat_lt
              have hval : (((y ^^^ 255).toNat : Nat) : Int) = bits .xor .u8 (y.toNat : Int) 255 := by
                rw [UInt8.toNat_xor]; exact (u8_xor_nat y.toNat 255 hyb (by omega)).symm
              rw [hval] at hT3
              have HT3 := hide hT3
              clear hF hS s0 s1 s2 hT2 y1 y2 hval hT3
              go_wp2
              go_roundw
              case rel => exact ⟨jj + 1, by omega, by go_num, HT3⟩
              case measure => simp [intOf]; omega
            · go_wp2
              go_roundw
              case rel => exact ⟨kk + 1, by omega, by go_num, hT2⟩
              case measure => simp [intOf]; omega
        · obtain ⟨Lt, hIt, hshx, hFte, hchg⟩ := hT.out
          have hbt2 : Below wb.heap.size wb wb := Below.refl _ _
          have hsb : wa.heap.size ≤ wb.heap.size := HBB.out.size
          have hz : Below wa.heap.size wb wr := hchg.below hsb HFT.out
          have hwz : Below wa.heap.size wa wr := HBB.out.trans hz
          have hlw : ∀ q ∈ itFp vw Lw, q < wa.heap.size := HIW.out.lt
          have HIWr := hide (HIW.out.same fun q hq => hwz.block q (hlw q hq))
          have HRr := hide (((HR.out.below HBA.out)).below hwz)
          have HBr := hide (HBL.out.trans ((HBA.out.mono HBL.out.size).trans (hwz.mono (Nat.le_trans HBL.out.size HBA.out.size))))
          have hFlt : ∀ q ∈ F, q < wz.heap.size := HR.out.lt
          have hzr : wz.heap.size ≤ wr.heap.size := Nat.le_trans HBA.out.size hwz.size
          have HFL := hide hFlt
          clear hIt hFte hshx hchg hbt2 hsb hz hwz hlw hT HIW HBA HBB HFT HTR HSH HSL HR hFlt
          obtain ⟨wy, rfl⟩ : ∃ wy : World, wy = wr := ⟨_, rfl⟩
          have hiNx : ∃ iN : Nat, ∀ k : Nat, k < l.length → ((k : Int) = i ↔ k = iN) := by
            by_cases hin : 0 ≤ i ∧ i < l.length
            · exact ⟨i.toNat, fun k hk => by omega⟩
            · exact ⟨l.length, fun k hk => by omega⟩
          obtain ⟨iN, hiN⟩ := hiNx
          have HIN := hide hiN
          clear hiN
          go_wp2_with fail
          refine (net_take_any nb l F i iN wy HRr.out hl4 HIN.out).mono ?_
          rintro e wt ⟨t, ax, bs, cx, F', rfl, hr', hrd', hc', hgt⟩
          have hwx : ∀ q ∈ itFp vw Lw, q < wy.heap.size := HIWr.out.lt
          have HIWt : Hid (Items wt 33 2 vw Lw) := HIWr.out.same fun q hq => hc'.block q (hwx q hq) fun hqF => by have h1 := HFL.out q hqF; have h2 := HFW.out q hq; omega
          have HRt := hide hr'; have HRDt := hide hrd'; have HGT := hide hgt
          have HBt := hide (HBr.out.trans (hc'.below HBr.out.size HF.out))
          clear hwx hr' hrd' hc' hgt HIWr HRr HBr
          obtain ⟨wX, hwX⟩ : ∃ wX, wX = wt.alloc (.cells #[.int .u8 t, .slice ax bs.length cx] 33) := ⟨_, rfl⟩
          have x0 : wX.cell? ⟨wt.heap.size, 0, none⟩ = some (.int .u8 t) := by rw [hwX]; simp
          have x1 : wX.cell? ⟨wt.heap.size, 1, none⟩ = some (.slice ax bs.length cx) := by rw [hwX]; simp
          have hxs : wt.heap.size < wX.heap.size := by rw [hwX]; simp
          have hbX : Below wt.heap.size wt wX := by rw [hwX]; exact (Below.refl _ _).alloc (Nat.le_refl _) _
          have HIWX := hide (HIWt.out.low hbX); have HRX := hide (HRt.out.below hbX); have HRDX := hide (HRDt.out.low hbX); have HBX := hide (HBt.out.trans (hbX.mono HBt.out.size))
          obtain ⟨aw, cw, hvw⟩ := HIWX.out.head
          have hLl : Lw.length = l.length := by have := congrArg List.length HKW.out; simpa using this
          rw [hLl] at hvw
          subst hvw
          have HLl := hide hLl
          have HWX := hide hwX
          clear hLl hbX HIWt HRt HRDt HBt
          go_wp2_with fail
          rw [← HWX.out]
          clear hwX
          go_wp2
          go_loopw [13, 14, 15] (fun v b i wr => ∃ (k : Nat), k ≤ l.length ∧ i = .int .i64 k ∧ b = .bool (decide (iN < k)) ∧ Hid (WantRel wX Lw iN k v wr)) (fun _ _ i _ => l.length - (intOf i).toNat)
          case atStart => exact ⟨0, Nat.zero_le _, rfl, by simp, ⟨by simpa [wantL] using World.ownsRow_nil _ _ _ _, Below.refl _ _⟩⟩
          case round =>
            obtain ⟨kw, hkw, rfl, rfl, hWR⟩ := hrel
            by_cases hltw : kw < l.length
            · have hlw : kw < Lw.length := by rw [HLl.out]; exact hltw
              obtain ⟨tw, htw⟩ : ∃ tw, Lw[kw]? = some tw := ⟨_, List.getElem?_eq_getElem hlw⟩
              obtain ⟨g, hg⟩ : ∃ g, l[kw]? = some g := ⟨_, List.getElem?_eq_getElem hltw⟩
              have hkey : tw.key = g.key := by
                have e1 := congrArg (fun l => l[kw]?) HKW.out
                simpa [htw, hg] using e1
              simp only [Item.key, G.key, Prod.mk.injEq] at hkey
              obtain ⟨k1, k2, k3⟩ := hkey
              have hIr := HIWX.out.low hWR.out.2
              obtain ⟨gw, capw, hvw, hcw, _, hgwl⟩ := hIr.get htw
              rw [HLl.out] at hvw
              simp only [Value.slice.injEq, true_and] at hvw
              obtain ⟨rfl, rfl⟩ := hvw
              obtain ⟨e1, e2, e3⟩ := hIr.each tw (List.mem_of_getElem? htw)
              have hrdw := ownsRow_rd e3
              rw [k3] at hrdw
              obtain ⟨axw, cxw, hxw⟩ := hrdw.head
              rw [hxw] at hrdw
              have c0 : wr.cell? ⟨gw, kw * 2, none⟩ = some (.int .u8 g.to) := by have := hcw 0 (by omega); simpa [Item.cells, k1] using this
              have c1 : wr.cell? ⟨gw, kw * 2 + 1, none⟩ = some (.slice axw g.b.length cxw) := by have := hcw 1 (by omega); simpa [Item.cells, k1, hxw] using this
              have i1 : (0 : Int) ≤ (kw : Int) := by omega
              have i2 : (kw : Int) < (l.length : Int) := by omega
              have hiff := HIN.out kw hltw
              by_cases hki : kw = iN
              · have hki2 : ((kw : Int) == i) = true := by simp; exact hiff.2 hki
                obtain ⟨ht1, ht2⟩ := HGT.out g (by rw [← hki]; exact hg)
                have hbl : bs.length = g.b.length := by rw [ht2]
                have hxr0 := (hWR.out.2.cell (p := ⟨wt.heap.size, 0, none⟩) hxs).trans x0
                have hxr1 := (hWR.out.2.cell (p := ⟨wt.heap.size, 1, none⟩) hxs).trans x1
                have hxs2 : wt.heap.size < wr.heap.size := Nat.lt_of_lt_of_le hxs hWR.out.2.size
                have hrdx := HRDX.out.low hWR.out.2
                rw [ht1] at hxr0
                rw [hbl] at hxr1 hrdx
                rw [ht2] at hrdx
                have s0 : ∀ w', Below wr.heap.size wr w' → w'.cell? ⟨wt.heap.size, 0, none⟩ = some (.int .u8 g.to) := fun w' h => (h.cell (p := ⟨wt.heap.size, 0, none⟩) hxs2).trans hxr0
                have s1 : ∀ w', Below wr.heap.size wr w' → w'.cell? ⟨wt.heap.size, 1, none⟩ = some (.slice ax g.b.length cx) := fun w' h => (h.cell (p := ⟨wt.heap.size, 1, none⟩) hxs2).trans hxr1
                have s2 : ∀ w', Below wr.heap.size wr w' → w'.cell? ⟨gw, kw * 2, none⟩ = some (.int .u8 g.to) := fun w' h => (h.cell (p := ⟨gw, kw * 2, none⟩) hgwl).trans c0
                have s3 : ∀ w', Below wr.heap.size wr w' → w'.cell? ⟨gw, kw * 2 + 1, none⟩ = some (.slice axw g.b.length cxw) := fun w' h => (h.cell (p := ⟨gw, kw * 2 + 1, none⟩) hgwl).trans c1
                have v1 : ∀ w', Below wr.heap.size wr w' → (convert 22 9 (.slice ax g.b.length cx)).run Try.prog w' = .ok (.string ⟨g.b.toArray⟩) w' := fun w' h => convert_rd g.b _ _ (hrdx.low h)
                have v2 : ∀ w', Below wr.heap.size wr w' → (convert 22 9 (.slice axw g.b.length cxw)).run Try.prog w' = .ok (.string ⟨g.b.toArray⟩) w' := fun w' h => convert_rd g.b _ _ (hrdw.low h)
                have HKI := hide hki
                clear hiff hki ht1 ht2 hbl hxr0 hxr1 hrdx c0 c1 hrdw e1 e2 e3 hxw hcw hIr k1 k2 k3 htw hg
                go_wp2_with fail
                refine wp_region_new 21 132 (by kernel_rfl) (by kernel_rfl) rfl (by kernel_rfl) (fun w' => Below wr.heap.size wr w') (Below.refl _ _) (fun w w' h1 h2 => h2.trans (h1.mono h2.size)) (fun h => h.drew) ?_
                simp only [List.take_succ_cons, List.take_zero, List.drop_succ_cons, List.drop_zero]
                iterate 21 (refine Hav.read (e := ?_) (fun v => by rfl) (fun v w' hS hF => ?_) ?_; rotate_left; (first | (go_simp; done) | (go_simp; with_reducible rfl)); go_simp)
                refine Hav.fin (fun v w' hS hF => ?_)
                have hW2 : Hid (WantRel wX Lw iN (kw + 1) u13 w') := by
                  obtain ⟨q1, q2⟩ := hWR.out
                  refine ⟨?_, q2.trans (hS.mono q2.size)⟩
                  have hw := wantL_skip hlw
                  rw [HKI.out] at hw
                  rw [HKI.out] at q1 ⊢
                  rw [hw]
                  exact ownsRow_below q1 hS (Nat.le_refl _)
                clear hF hS s0 s1 s2 s3 v1 v2 hWR
                go_wp2
                go_roundw
                case rel => exact ⟨kw + 1, by omega, by go_num, by simp [← HKI.out], hW2⟩
                case measure => simp [intOf]; omega
              · have hki2 : ((kw : Int) == i) = false := by
                  rw [beq_eq_false_iff_ne]
                  exact fun e => hki (hiff.1 e)
                have hnext := wantL_next hlw hki
                have hLk : Lw[kw] = tw := by rw [List.getElem?_eq_getElem hlw] at htw; exact Option.some.inj htw
                rw [hLk] at hnext
                have hcells : tw.cells = [.int .u8 g.to, .slice axw g.b.length cxw] := by simp [Item.cells, k1, k2, hxw]
                have hwl : (wantL Lw iN kw).length ≤ 4096 := by
                  have : (wantL Lw iN kw).length ≤ kw := by
                    unfold wantL
                    refine Nat.le_trans (List.length_eraseIdx_le _ _) ?_
                    simp only [List.length_take]
                    omega
                  omega
                have hdec : decide (iN < kw + 1) = decide (iN < kw) := by simp only [decide_eq_decide]; omega
                have hXr : wX.heap.size ≤ wr.heap.size := hWR.out.2.size
                have HNX := hide hnext; have HCE := hide hcells; have HDE := hide hdec
                obtain ⟨i0, hi0, hz0, hz1, hz2⟩ := info_parts info_Gram
                clear hiff hnext hcells hdec hLk hrdw e1 e2 e3 hxw hcw hIr k1 k2 k3 htw hg
                go_wp2_with (at_builtin; refine wpList_append_rd rfl (.tmp 116) (.tmp 121) 37 rfl wX.heap.size 33 i0 (.agg #[.int .u8 0, .slice none 0 0]) 2 32 Try.underlying37 hi0 hz0 hz1 hz2 rfl (by decide) u13 (wantL Lw iN kw).length ((wantL Lw iN kw).flatMap Item.cells) rfl (hWR.out.1.alloc _) _ 1 [.int .u8 g.to, .slice axw g.b.length cxw] rfl (rd_new _ _ _ 1 2 (by simp) (by simp)) (by simp [Value.oneCell']) (by unfold maxLen; omega) (by omega) (by simp; omega) ?_)
                intro v' w2' hown2 hgrow hnil hv'
                have hW2 : Hid (WantRel wX Lw iN (kw + 1) v' w2') := by
                  obtain ⟨q1, q2⟩ := hWR.out
                  refine ⟨?_, (q2.alloc hXr _).grown hgrow (by simp; omega) (fun q hq => (q1.lt q hq).1)⟩
                  rw [HNX.out]
                  simp only [List.length_append, List.length_cons, List.length_nil, List.flatMap_append, List.flatMap_cons, List.flatMap_nil, List.append_nil]
                  rw [HCE.out]
                  exact hown2
                clear hown2 hgrow hnil hv' hWR
                go_wp2
                go_roundw
                case rel => exact ⟨kw + 1, by omega, by go_num, by rw [HDE.out], hW2⟩
                case measure => simp [intOf]; omega
            · have hke : kw = l.length := by omega
              have hwant : Hid (RdGrams wr u13 ((l.eraseIdx iN).map fun g => (g.to, g.b))) := by
                obtain ⟨q1, q2⟩ := hWR.out
                have hIr := HIWX.out.low q2
                have hwl : wantL Lw iN kw = Lw.eraseIdx iN := by unfold wantL; rw [List.take_of_length_le (by rw [HLl.out]; omega)]
                rw [hwl] at q1
                refine ⟨Lw.eraseIdx iN, ⟨ownsRow_rd q1, fun t ht => ?_⟩, ?_⟩
                · obtain ⟨z1, _, z3⟩ := hIr.each t (List.mem_of_mem_eraseIdx ht)
                  exact ⟨z1, ownsRow_rd z3⟩
                · have := congrArg (fun l => l.eraseIdx iN) HKW.out
                  simp only [map_erase] at this
                  rw [List.map_map]
                  exact this
              have hRr := HRX.out.below hWR.out.2
              have HRr := hide hRr
              have HBr := hide (HBX.out.trans (hWR.out.2.mono HBX.out.size))
              have hel : (l.eraseIdx iN).length ≤ 4096 := Nat.le_trans (List.length_eraseIdx_le _ _) hl4
              have hgl : ∀ g ∈ l.eraseIdx iN, g.b.length ≤ 4096 ∧ 0 ≤ g.to ∧ g.to ≤ 1 := fun g hg => HGS.out g (List.mem_of_mem_eraseIdx hg)
              have HGL := hide hgl
              clear hRr hgl hWR
              subst hke
              go_wp2_with fail
              refine (net_grams nb (l.eraseIdx iN) F' wr HRr.out hel (fun g hg => (HGL.out g hg).1)).mono ?_
              rintro e wg ⟨vg, Lg, rfl, hIg, hkg, hfg, hbg⟩
              have hga : RdGrams wg vg ((l.eraseIdx iN).map fun g => (g.to, g.b)) := by
                refine ⟨Lg, hIg.rd, ?_⟩
                rw [List.map_map]
                exact hkg
              have HGA := hide hga; have HGB := hide (hwant.out.low hbg); have HBg := hide (HBr.out.trans (hbg.mono HBr.out.size))
              clear hga hIg hkg hfg hbg
              go_wp2_with fail
              refine (same_grams vg u13 ((l.eraseIdx iN).map fun g => (g.to, g.b)) wg HGA.out HGB.out (by simp; omega) (fun g hg => by
                obtain ⟨q, hq, rfl⟩ := List.mem_map.1 hg
                obtain ⟨h1, h2, h3⟩ := HGL.out q hq
                exact ⟨h2, by simp only; omega, by simp only; omega⟩)).mono ?_
              rintro e we ⟨rfl, hbe⟩
              have HBe := hide (HBg.out.trans (hbe.mono HBg.out.size))
              clear hbe
              go_wp2
              go_ret
              exact ⟨rfl, HBe.out⟩
end Go.Proofs.Ytipobpcafkhknaa
