/-
  The walk of GaugeDoes.
-/
import Derived.Test.YtgolknkapcelpaaDoorGaF
namespace Go.Proofs.YtgolknkapcelpaaDoor
open Go.RowKit Go.Maps
set_option linter.unusedVariables false
set_option linter.unusedSimpArgs false

/-- a list of texts that is read -/
def RdStrs (W : World) (x : Value) (L : List Bs) : Prop := Rd W x 1 L.length (L.map strV) ∧ ∀ s ∈ L, s.length ≤ maxLen
theorem RdStrs.low {W W' : World} {x : Value} {L : List Bs} (h : RdStrs W x L) (hb : Below W.heap.size W W') : RdStrs W' x L := ⟨Rd.low h.1 hb, h.2⟩
theorem RdStrs.head {W : World} {x : Value} {L : List Bs} (h : RdStrs W x L) : ∃ a c, x = .slice a L.length c := Rd.head h.1
theorem RdStrs.at {W : World} {x : Value} {L : List Bs} (h : RdStrs W x L) {i : Nat} (hi : i < L.length) : ∃ b off c, x = .slice (some ⟨b, off, none⟩) L.length c ∧ W.cell? ⟨b, off + i, none⟩ = some (.string ⟨L[i].toArray⟩) ∧ b < W.heap.size ∧ L[i].length ≤ maxLen := by
  obtain ⟨b, off, c, rfl, hc, hb⟩ := Rd.addr h.1 (by omega) (by omega)
  exact ⟨b, off, c, rfl, hc i _ (by simp [hi, strV]), hb, h.2 _ (List.getElem_mem hi)⟩

set_option maxRecDepth 100000 in
theorem rg_Same (p q : Nat) (w : World) (hp : NmRow w p) (hq : NmRow w q) : Calls Tryd.prog 9 #[.slice (some ⟨p, 0, none⟩) 11 11, .slice (some ⟨q, 0, none⟩) 11 11] w fun e w' => e = .returned (.bool true) ∧ Below w.heap.size w w' := by
  have HP := hide hp; have HQ := hide hq
  clear hp hq
  go_enter Tryd.func9, Tryd.ntmps9
  go_wp2
  go_loopw [5] (fun iv wr => ∃ (i : Nat), iv = .int .i64 i ∧ i ≤ 11 ∧ Hid (Below w.heap.size w wr)) (fun iv _ => match iv with | .int _ j => 11 - j.toNat | _ => 0)
  case atStart => exact ⟨0, rfl, by omega, hide (Below.refl _ _)⟩
  case round =>
    obtain ⟨i, rfl, hi, hb⟩ := hrel
    by_cases hin : i < 11
    · have i0 : (i : Int) < 11 := by omega
      obtain ⟨nm, hnm⟩ : ∃ nm, nm = gaNames.getD i [] := ⟨_, rfl⟩
      have hcl : Hid (∀ w', Below wr.heap.size wr w' → w'.cell? ⟨p, i, none⟩ = some (.string ⟨nm.toArray⟩) ∧ w'.cell? ⟨q, i, none⟩ = some (.string ⟨nm.toArray⟩)) := hide fun w' h => by
        have h1 := ((HP.out.low hb.out).low h).at hin
        have h2 := ((HQ.out.low hb.out).low h).at hin
        rw [← hnm] at h1 h2
        exact ⟨h1, h2⟩
      have e1 : (nm == nm) = true := by simp
      have hwi : IntKind.i64.wrap ((i : Int) + 1) = (i : Int) + 1 := wrapI (by omega) (by omega)
      clear hnm
      go_wp2_with fail
      refine wp_region_three 9 26 (by kernel_rfl) (by kernel_rfl) rfl (by kernel_rfl) (fun D v w' => Below wr.heap.size wr w') (fun _ => undef) (Below.refl _ _).drew ?_
      simp only [List.take_succ_cons, List.take_zero, List.drop_succ_cons, List.drop_zero]
      iterate 9 (refine Hav3.read (e := ?_) (fun v => by rfl) (fun D v w h => h) (fun D v w' hD hS => ?_) ?_; rotate_left; (obtain ⟨f1, f2⟩ := hcl.out w' hS; clear hS hD; first | (go_simp; done) | (go_simp; with_reducible rfl)); go_simp)
      refine Hav3.fin (fun v w' hS => ?_)
      have HS := hide (hb.out.trans (hS.mono hb.out.size))
      clear hS
      go_wp2
      exact ⟨⟨i + 1, by simp, by omega, HS⟩, by show 11 - ((i : Int) + 1).toNat < 11 - ((i : Nat) : Int).toNat; omega⟩
    · have i0 : ¬ ((i : Int) < 11) := by omega
      go_wp2
      go_ret
      exact ⟨rfl, hb.out⟩

/-- a gauge, and the document's -/
structure GR (W w : World) (gb : Nat) (N F : List Nat) (rb : Nat) : Prop where
  a : GOwn W w gb N F
  r : RAt w rb N
  up : W.heap.size ≤ rb
  far : rb ∉ F
theorem GR.then {W w w' : World} {gb rb : Nat} {N F : List Nat} (h : GR W w gb N F rb) (hb : Below w.heap.size w w') : GR W w' gb N F rb := ⟨h.a.then hb, h.r.low hb, h.up, h.far⟩

set_option maxRecDepth 100000 in
set_option maxHeartbeats 3200000 in
theorem law_GaugeDoes (W : World) (ht : Tab W) (x0 : Value) (L : List Bs) (hL : RdStrs W x0 L) (x : Value) (b : Bs) (hx : RdB W x b) (hbl : b.length ≤ 9223372036854775807) :
    Calls Tryd.prog 3 #[x0, x] W fun e w' => e = .returned (.bool true) ∧ Below W.heap.size W w' := by
  obtain ⟨xa, xc, rfl⟩ := hx.head
  obtain ⟨ya, yc, rfl⟩ := hL.head
  have HT := hide ht
  have HX := hide hx
  have HY := hide hL
  clear ht hx hL
  by_cases big0 : 100 < L.length
  · have i1 : (100 : Int) < L.length := by omega
    go_enter Tryd.func3, Tryd.ntmps3
    go_wp2_with (refine (ga_known _ HT.out).mono ?_; rintro e w' ⟨rfl, hb⟩; have HB := hide hb; clear hb)
    go_ret
    exact ⟨rfl, HB.out⟩
  have i1 : ¬ ((100 : Int) < L.length) := by omega
  by_cases big : 100 < b.length
  · have i2 : (100 : Int) < b.length := by omega
    go_enter Tryd.func3, Tryd.ntmps3
    go_wp2_with (refine (ga_known _ HT.out).mono ?_; rintro e w' ⟨rfl, hb⟩; have HB := hide hb; clear hb)
    go_ret
    exact ⟨rfl, HB.out⟩
  have i2 : ¬ ((100 : Int) < b.length) := by omega
  go_enter Tryd.func3, Tryd.ntmps3
  go_wp2_with fail
  refine (ga_known _ HT.out).mono ?_
  rintro e w1 ⟨rfl, hb1⟩
  have HB1 := hide hb1
  clear hb1
  go_wp2_with fail
  refine (ga_New w1).mono ?_
  rintro e w2 ⟨rfl, hg, hb2⟩
  obtain ⟨ga, hga⟩ : ∃ ga, ga = w1.heap.size := ⟨_, rfl⟩
  have GA : Hid (GOwn W w2 ga zeros [ga]) := hide ⟨by rw [hga]; exact hg, fun k hk => by simp only [List.mem_singleton] at hk; have := HB1.out.size; omega, HB1.out.trans (hb2.mono HB1.out.size)⟩
  rw [← hga]
  clear hg hb2 hga HB1
  go_wp2_with fail
  refine (rg_New w2).mono ?_
  rintro e w3 ⟨rfl, hr, hb3⟩
  obtain ⟨rb, hrb⟩ : ∃ rb, rb = w2.heap.size := ⟨_, rfl⟩
  have G3 : Hid (GR W w3 ga zeros [ga] rb) := hide ⟨GA.out.then hb3, by rw [hrb]; exact hr, by rw [hrb]; exact GA.out.low.size, fun hm => by have := GA.out.rep.lt _ hm; omega⟩
  rw [← hrb]
  clear hr hb3 hrb GA
  go_wp2_with fail
  refine (ga_Names _ w3 (HT.out.low G3.out.a.low)).mono ?_
  rintro e w4 ⟨rfl, hw4⟩
  have hn4 : Hid (NmRow w4 w3.heap.size) := hide (by rw [hw4]; exact heap_alloc_at w3 _)
  have G4 := hide (G3.out.then (show Below w3.heap.size w3 w4 by rw [hw4]; exact below_alloc w3 _))
  clear hw4 G3
  go_wp2_with fail
  refine (rg_Names w4).mono ?_
  rintro e w5 ⟨rfl, hw5⟩
  have hb5 : Below w4.heap.size w4 w5 := by rw [hw5]; exact below_alloc w4 _
  have hn5 : Hid (NmRow w5 w4.heap.size) := hide (by rw [hw5]; exact heap_alloc_at w4 _)
  have hn45 := hide (hn4.out.low hb5)
  have G5 := hide (G4.out.then hb5)
  clear hw5 hb5 G4 hn4
  go_wp2_with fail
  refine (rg_Same _ _ w5 hn45.out hn5.out).mono ?_
  rintro e w6 ⟨rfl, hb6⟩
  have G6 := hide (G5.out.then hb6)
  clear hb6 G5 hn5 hn45
  go_wp2
  go_loopw [7, 8, 9, 10, 11, 12, 13, 14] (fun iv _ _ _ _ _ _ _ wr => ∃ (i : Nat) (N F : List Nat), iv = .int .i64 i ∧ i ≤ 100 ∧ Hid (GR W wr ga N F rb ∧ N.length = 11 ∧ ∀ m ∈ N, m ≤ i)) (fun iv _ _ _ _ _ _ _ _ => match iv with | .int _ j => 101 - j.toNat | _ => 0)
  case atStart => exact ⟨0, zeros, [ga], rfl, by omega, hide ⟨G6.out, rfl, fun m hm => by rw [List.eq_of_mem_replicate hm]; exact Nat.le_refl _⟩⟩
  case round =>
    obtain ⟨i, N, F, rfl, hi, hr⟩ := hrel
    clear G6
    obtain ⟨hd, hlN, hbN⟩ := hr.out
    have HD := hide hd; have HLN := hide hlN; have HBN := hide hbN
    clear hr hd hlN hbN
    by_cases hgo : i < L.length ∧ i < b.length
    · obtain ⟨hiL, hib⟩ := hgo
      have i0 : (i : Int) < L.length := by omega
      have j0 : (i : Int) < b.length := by omega
      obtain ⟨yb, yo, yc', hey, hyc, hyb, hyl⟩ := HY.out.at hiL
      simp only [Value.slice.injEq] at hey
      obtain ⟨rfl, -, rfl⟩ := hey
      obtain ⟨xb, xo, xc', hex, hxc, hxb⟩ := HX.out.at hib
      simp only [Value.slice.injEq] at hex
      obtain ⟨rfl, -, rfl⟩ := hex
      obtain ⟨v, hv⟩ : ∃ v, v = b[i].toNat := ⟨_, rfl⟩
      obtain ⟨s, hs⟩ : ∃ s, s = L[i] := ⟨_, rfl⟩
      rw [← hv] at hxc
      rw [← hs] at hyc hyl
      have hv256 : v < 256 := by rw [hv]; exact UInt8.toNat_lt _
      have hwi : IntKind.i64.wrap ((i : Int) + 1) = (i : Int) + 1 := wrapI (by omega) (by omega)
      have hcl : Hid (∀ w', Below wr.heap.size wr w' → w'.cell? ⟨yb, yo + i, none⟩ = some (.string ⟨s.toArray⟩) ∧ w'.cell? ⟨xb, xo + i, none⟩ = some (.int .u8 v)) := hide fun w' h => by
        have h1 := HD.out.a.low.trans (h.mono HD.out.a.low.size)
        exact ⟨(h1.cell (p := ⟨yb, yo + i, none⟩) hyb).trans hyc, (h1.cell (p := ⟨xb, xo + i, none⟩) hxb).trans hxc⟩
      have HYL := hide hyl
      clear hv hs hyc hxc hyl
      go_wp2_with fail
      refine wp_region_three 8 98 (by kernel_rfl) (by kernel_rfl) rfl (by kernel_rfl) (fun D v w' => Below wr.heap.size wr w') (fun _ => undef) (Below.refl _ _).drew ?_
      simp only [List.take_succ_cons, List.take_zero, List.drop_succ_cons, List.drop_zero]
      iterate 8 (refine Hav3.read (e := ?_) (fun v => by rfl) (fun D v w h => h) (fun D v w' hD hS => ?_) ?_; rotate_left; (obtain ⟨f1, f2⟩ := hcl.out w' hS; clear hS hD; first | (go_simp; done) | (go_simp; with_reducible rfl)); go_simp)
      refine Hav3.fin (fun vv w5 hS => ?_)
      have D5 := hide (HD.out.then hS)
      clear hS HD
      go_wp2_with fail
      refine (law_name s v hv256 w5).mono ?_
      rintro e w6 ⟨rfl, hb6⟩
      have D6 := hide (D5.out.then hb6)
      obtain ⟨kk, hkk⟩ : ∃ kk, kk = nmOf s v := ⟨_, rfl⟩
      have hkl : kk.length ≤ maxLen := by rw [hkk]; exact nmOf_len HYL.out v
      rw [← hkk]
      clear hb6 D5 hkk
      go_wp2_with fail
      refine (ga_Count ga N F kk hkl w6 D6.out.a.rep (fun m hm => by have := HBN.out m hm; omega) (HT.out.low D6.out.a.low)).mono ?_
      rintro e w7 ⟨rfl, F7, hg7, hc7⟩
      have A7 := hide (D6.out.a.step hg7 hc7)
      have R7 := hide (D6.out.r.chg hc7 D6.out.far)
      have hf7 : Hid (rb ∉ F7) := hide fun hm => by
        rcases hc7.fresh rb hm with h3 | h3
        · exact D6.out.far h3
        · have := D6.out.r.facts.1; omega
      have hup := hide D6.out.up
      obtain ⟨is, his⟩ : ∃ is, is = (nmIdx kk).isSome := ⟨_, rfl⟩
      have HIS := hide his
      rw [← his]
      clear hg7 hc7 D6 his
      go_wp2_with fail
      refine (rg_Count rb N kk w7 R7.out HLN.out (fun m hm => by have := HBN.out m hm; omega)).mono ?_
      rintro e w8 ⟨rfl, hr8, hc8⟩
      obtain ⟨N', hN'⟩ : ∃ N', N' = gaAdd N kk := ⟨_, rfl⟩
      have hlN2 : Hid (N'.length = 11) := hide (by rw [hN', gaAdd_len]; exact HLN.out)
      have hbN2 : Hid (∀ m ∈ N', m ≤ i + 1) := hide (by rw [hN']; exact gaAdd_le HBN.out kk)
      have hsm2 : Hid (∀ m ∈ N', m ≤ 1000000) := hide fun m hm => by have := hbN2.out m hm; omega
      rw [← hN'] at A7 hr8
      have G8 : Hid (GR W w8 ga N' F7 rb) := hide ⟨A7.out.other hc8 (fun k hk => by simp only [List.mem_singleton] at hk; rw [hk]; exact hup.out) (fun k hk hm => by simp only [List.mem_singleton] at hm; rw [hm] at hk; exact hf7.out hk), hr8, hup.out, hf7.out⟩
      rw [← HIS.out]
      clear hr8 hc8 A7 R7 hN' hf7
      go_wp2_with fail
      refine (ga_Value ga N' F7 kk hkl w8 G8.out.a.rep (HT.out.low G8.out.a.low)).mono ?_
      rintro e w9 ⟨rfl, F9, hg9, hc9⟩
      have G9 : Hid (GR W w9 ga N' F9 rb) := hide ⟨G8.out.a.step hg9 hc9, G8.out.r.chg hc9 G8.out.far, G8.out.up, fun hm => by
        rcases hc9.fresh rb hm with h3 | h3
        · exact G8.out.far h3
        · have := G8.out.r.facts.1; omega⟩
      obtain ⟨vv, hvv⟩ : ∃ vv, vv = gaVal N' kk := ⟨_, rfl⟩
      have HVV := hide hvv
      rw [← HIS.out, ← hvv]
      clear hg9 hc9 G8 hvv
      go_wp2_with fail
      refine (rg_Value rb N' kk w9 G9.out.r hlN2.out).mono ?_
      rintro e w10 ⟨rfl, hb10⟩
      have G10 := hide (G9.out.then hb10)
      rw [← HIS.out, ← HVV.out]
      clear hb10 G9
      have ew : (is == is) = true := by simp
      have ev : ((vv : Int) == vv) = true := by simp
      obtain ⟨sm, hsm⟩ : ∃ sm, sm = N'.sum := ⟨_, rfl⟩
      have HSM := hide hsm
      clear hsm
      go_wp2_with (first
        | (go_at_call 17; refine (ga_Total ga N' F9 w10 G10.out.a.rep).mono ?_; rintro e w11 ⟨rfl, rfl⟩; rw [← HSM.out])
        | (go_at_call 18; refine (rg_Total rb N' w10 G10.out.r hlN2.out hsm2.out).mono ?_; rintro e w11 ⟨rfl, rfl⟩; rw [← HSM.out]))
      exact ⟨⟨i + 1, N', F9, by simp, by omega, hide ⟨G10.out, hlN2.out, hbN2.out⟩⟩, by show 101 - ((i : Int) + 1).toNat < 101 - ((i : Nat) : Int).toNat; omega⟩
    · have hways : (((i : Int) < L.length) ∧ ¬ ((i : Int) < b.length)) ∨ ¬ ((i : Int) < L.length) := by omega
      rcases hways with ⟨i0, j0⟩ | i0
      all_goals
        go_wp2
        go_ret
        exact ⟨rfl, HD.out.a.low⟩
end Go.Proofs.YtgolknkapcelpaaDoor
