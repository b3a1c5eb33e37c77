/-
  The law NetKeeps: the walk.
-/
import Derived.Test.YtipobpcafkhknaaNetKA
import Derived.Test.YtipobpcafkhknaaReg3
import Derived.Deep.DeepCutAuto
namespace Go.Proofs.Ytipobpcafkhknaa
open Go.RowKit
set_option linter.unusedVariables false
set_option linter.unusedSimpArgs false

set_option maxRecDepth 100000 in
set_option maxHeartbeats 1600000 in
theorem law_keeps_known (v : Value) (L : List Item) (w : World) (hL : RdItems w 6 v L) (hop : ∀ t ∈ L, IsOp t) (hl : L.length ≤ 9223372036854775807) (hlb : ∀ t ∈ L, t.b.length ≤ 9223372036854775807) (hk : heavyB L = true) :
    Calls Try.prog 6 #[v] w fun e w' => e = .returned (.bool true) ∧ Below w.heap.size w w' := by
  have HL := hide hL; have HO := hide hop; have HB := hide hlb; have HH := hide hk
  clear hL hop hlb hk
  go_enter Try.func6, Try.ntmps6
  go_wp2_with fail
  refine (law_heavy v L _ HL.out HO.out hl HB.out).mono ?_
  rintro e w' ⟨rfl, rfl⟩
  rw [HH.out]
  go_wp2_with (go_at_call 8; refine (law_known _).mono ?_; rintro e w' ⟨rfl, hb⟩; have HBw := hide hb; clear hb)
  go_ret
  exact ⟨rfl, HBw.out⟩

theorem ks_new {W w : World} (hb : Below W.heap.size W w) : KS W w.heap.size [] (.slice none 0 0) [] (w.alloc (.cells #[.slice none 0 0] 50)) := by
  obtain ⟨F, hr, hf, hb1⟩ := net_new_at w
  exact ⟨F, [], hr, Items.nil _ _ _, rfl, fun k hk => by simp [itFp, Value.ownBlock], fun k hk => Nat.le_trans hb.size (hf k hk), fun k hk => by simp [itFp, Value.ownBlock] at hk, hb.trans (hb1.mono hb.size)⟩

set_option maxRecDepth 100000 in
set_option maxHeartbeats 6400000 in
theorem law_keeps_goes (v : Value) (L : List Item) (W : World) (hL : RdItems W 6 v L) (hop : ∀ t ∈ L, IsOp t) (hl : L.length ≤ 9223372036854775807) (hlb : ∀ t ∈ L, t.b.length ≤ 9223372036854775807) (hh : heavyB L = false) :
    Calls Try.prog 6 #[v] W fun e w' => e = .returned (.bool true) ∧ Below W.heap.size W w' := by
  obtain ⟨av, cv, rfl⟩ := hL.row.head
  have h80 : L.length ≤ 80 := by simp [heavyB] at hh; omega
  have h50 : ∀ t ∈ L, t.b.length ≤ 5000 := by simp [heavyB] at hh; exact hh.2
  have HL := hide hL; have HO := hide hop; have HB := hide hlb; have HH := hide hh; have H50 := hide h50
  obtain ⟨i0, hi0, hz0, hz1, hz2⟩ := info_parts info_u8
  obtain ⟨j0, hj0, hy0, hy1, hy2⟩ := info_parts info_Gram
  clear hL hop hlb hh h50
  go_enter Try.func6, Try.ntmps6
  go_wp2_with fail
  refine (law_heavy _ L _ HL.out HO.out hl HB.out).mono ?_
  rintro e w' ⟨rfl, rfl⟩
  rw [HH.out]
  go_wp2_with fail
  refine (law_known _).mono ?_
  rintro e w1 ⟨rfl, hb1⟩
  have hbo := ks_new hb1
  have HN := hide hbo
  clear hbo hb1
  go_wp2_with fail
  refine (net_new _).mono ?_
  rintro e w2 ⟨rfl, rfl⟩
  obtain ⟨nb, hnb⟩ : ∃ nb, nb = w1.heap.size := ⟨_, rfl⟩
  rw [← hnb] at HN ⊢
  clear hnb
  generalize w1.alloc (.cells #[.slice none 0 0] 50) = w2 at *
  clear w1
  go_wp2
  go_loopw [4, 5] (fun sv i wr => ∃ (k m c : Nat) (a : Option Addr) (l : List G) (sl : List (Int × List UInt8)), k ≤ L.length ∧ i = .int .i64 k ∧ m ≤ k ∧ sv = .slice a m c ∧ Hid (m = sl.length) ∧ Hid (KS W nb l (.slice a m c) sl wr ∧ Good l ∧ KeptP l sl)) (fun _ i _ => L.length - (intOf i).toNat)
  case atStart => exact ⟨0, 0, 0, none, [], [], Nat.zero_le _, rfl, by omega, rfl, rfl, HN.out, ⟨by simp, fun g h => by cases h⟩, fun g h => by cases h⟩
  case round =>
    obtain ⟨k, m, c, a, l, sl, hk, rfl, hmk, rfl, hml, hN⟩ := hrel
    by_cases hlt : k < L.length
    case neg =>
      go_wp2
      go_ret
      exact ⟨rfl, hN.out.1.base⟩
    have hg : L[k]? = some L[k] := List.getElem?_eq_getElem hlt
    obtain ⟨t, ht⟩ : ∃ t, t = L[k] := ⟨_, rfl⟩
    rw [← ht] at hg
    have hm := List.mem_of_getElem? hg
    obtain ⟨bb, off, c', k', to', i', at_, x, ax, cx, hv, hx, _, _, p1, p2, p3, p4, p5, p6, p7, p8, x0, x1, q0, q1, q2, q3, q4, q5, hrd, hbb⟩ := opCells HL.out (HO.out t hm) hg
    simp only [Value.slice.injEq, true_and] at hv
    obtain ⟨rfl, rfl⟩ := hv
    obtain ⟨y, rfl⟩ : ∃ y : UInt8, x = (y.toNat : Int) := ⟨UInt8.ofNat x.toNat, by rw [UInt8.toNat_ofNat']; omega⟩
    have ht5 := H50.out t hm
    have HRD := hide hrd
    have i1 : (0 : Int) ≤ (k : Int) := by omega
    have i2 : (k : Int) < (L.length : Int) := by omega
    have HQ : Hid (∀ w', Below W.heap.size W w' → w'.cell? ⟨bb, off + k * 6, none⟩ = some (.int .u8 k') ∧ w'.cell? ⟨bb, off + k * 6 + 1, none⟩ = some (.int .u8 to') ∧ w'.cell? ⟨bb, off + k * 6 + 2, none⟩ = some (.slice ax t.b.length cx) ∧ w'.cell? ⟨bb, off + k * 6 + 3, none⟩ = some (.int .i64 i') ∧ w'.cell? ⟨bb, off + k * 6 + 4, none⟩ = some (.int .i64 at_) ∧ w'.cell? ⟨bb, off + k * 6 + 5, none⟩ = some (.int .u8 (y.toNat : Nat))) :=
      hide fun w' hw => ⟨(hw.cell (p := ⟨bb, off + k * 6, none⟩) hbb).trans q0, (hw.cell (p := ⟨bb, off + k * 6 + 1, none⟩) hbb).trans q1, (hw.cell (p := ⟨bb, off + k * 6 + 2, none⟩) hbb).trans q2, (hw.cell (p := ⟨bb, off + k * 6 + 3, none⟩) hbb).trans q3, (hw.cell (p := ⟨bb, off + k * 6 + 4, none⟩) hbb).trans q4, (hw.cell (p := ⟨bb, off + k * 6 + 5, none⟩) hbb).trans q5⟩
    clear hrd hx hg ht hm q0 q1 q2 q3 q4 q5 x0 x1
    obtain ⟨wo, rfl⟩ : ∃ wo : World, wo = wr := ⟨_, rfl⟩
    go_upto_region 10 with fail
    go_cut [47] (fun s47 wx => ∃ (r : Bool) (l1 : List G), s47 = .bool r ∧ Hid (KS W nb l1 (.slice a m c) sl wx ∧ Good l1 ∧ (r = false → KeptP l1 sl) ∧ (r = true → KeptP l1 (sl ++ [(to', t.b)]))))
    case first =>
      by_cases hk3 : k' % 8 < 3
      · have b3 : decide (k' % 8 < 3) = true := by simpa using hk3
        have b3' : decide (k'.tmod 8 < 3) = true := by rw [Int.tmod_eq_emod_of_nonneg p1]; exact b3
        obtain ⟨r, hr⟩ : ∃ r, r = (sendS l to' t.b).2 := ⟨_, rfl⟩
        have HR := hide hr
        clear hr hk3
        refine wp_region_three 21 127 (by kernel_rfl) (by kernel_rfl) rfl (by kernel_rfl) (fun D v w' => KS W nb (if D 19 then (sendS l to' t.b).1 else l) (.slice a m c) sl w') (fun _ => undef) (hN.out.1.low (Below.refl _ _).drew) ?_
        simp only [List.take_succ_cons, List.take_zero, List.drop_succ_cons, List.drop_zero]
        iterate 19 (refine Hav3.read (e := ?_) (fun v => by rfl) (fun D v w h => h) (fun D v w' hD hS => ?_) ?_; rotate_left; (obtain ⟨s0, s1, s2, s3, s4, s5⟩ := HQ.out _ hS.base; clear hS; first | (go_simp; done) | (go_simp; with_reducible rfl)); go_simp)
        refine Hav3.call (.bool r) (fun v => by rfl) (fun D v w' hD hS => ?_) ?_
        · have d19 : D 19 = false := hD.self
          simp only [d19, Bool.false_eq_true, if_false] at hS
          have HS := hide hS
          clear hS
          go_simp
          go_at_call 10
          refine (HS.out.send hN.out.2.1 p3 HRD.out (by omega)).mono ?_
          rintro e w'' ⟨rfl, hK⟩
          rw [← HR.out]
          exact ⟨rfl, hK⟩
        go_simp
        iterate 1 (refine Hav3.read (e := ?_) (fun v => by rfl) (fun D v w h => h) (fun D v w' hD hS => ?_) ?_; rotate_left; (obtain ⟨s0, s1, s2, s3, s4, s5⟩ := HQ.out _ hS.base; clear hS; first | (go_simp; done) | (go_simp; with_reducible rfl)); go_simp)
        refine Hav3.fin (fun v w' hS => ?_)
        have hK : KS W nb (sendS l to' t.b).1 (.slice a m c) sl w' := hS
        have HK := hide hK
        clear hS hK
        go_wp2
        go_meet
        exact ⟨r, _, rfl, HK.out, (sendS_good hN.out.2.1 p3).1, fun h => by rw [kept_send_no (HR.out.symm.trans h)]; exact hN.out.2.2, fun h => kept_send hN.out.2.2 (HR.out.symm.trans h)⟩
      · have b3 : decide (k' % 8 < 3) = false := by simpa using hk3
        have b3' : decide (k'.tmod 8 < 3) = false := by rw [Int.tmod_eq_emod_of_nonneg p1]; exact b3
        refine wp_region_three 21 127 (by kernel_rfl) (by kernel_rfl) rfl (by kernel_rfl) (fun D v w' => KS W nb l (.slice a m c) sl w') (fun _ => undef) (hN.out.1.low (Below.refl _ _).drew) ?_
        simp only [List.take_succ_cons, List.take_zero, List.drop_succ_cons, List.drop_zero]
        iterate 8 (refine Hav3.read (e := ?_) (fun v => by rfl) (fun D v w h => h) (fun D v w' hD hS => ?_) ?_; rotate_left; (obtain ⟨s0, s1, s2, s3, s4, s5⟩ := HQ.out _ hS.base; clear hS; first | (go_simp; done) | (go_simp; with_reducible rfl)); go_simp)
        iterate 12 (refine Hav3.skip (fun v => by rfl) (fun D v w h => h) ?_; go_simp)
        iterate 1 (refine Hav3.read (e := ?_) (fun v => by rfl) (fun D v w h => h) (fun D v w' hD hS => ?_) ?_; rotate_left; (obtain ⟨s0, s1, s2, s3, s4, s5⟩ := HQ.out _ hS.base; clear hS; first | (go_simp; done) | (go_simp; with_reducible rfl)); go_simp)
        refine Hav3.fin (fun v w' hS => ?_)
        have HK := hide hS
        clear hS
        go_wp2
        go_meet
        exact ⟨false, l, rfl, HK.out, hN.out.2.1, fun _ => hN.out.2.2, fun h => by cases h⟩
    case rest =>
    obtain ⟨r, l1, rfl, hK1⟩ := hcut
    clear hN
    go_upto_if 47 with fail
    go_cut [4] (fun sv wx => ∃ (m2 c2 : Nat) (a2 : Option Addr) (sl2 : List (Int × List UInt8)), sv = .slice a2 m2 c2 ∧ m2 ≤ k + 1 ∧ Hid (m2 = sl2.length) ∧ Hid (KS W nb l1 (.slice a2 m2 c2) sl2 wx ∧ Good l1 ∧ KeptP l1 sl2))
    case first =>
      cases r with
      | false =>
        go_wp2
        go_meet
        exact ⟨m, c, a, sl, rfl, by omega, hml, hK1.out.1, hK1.out.2.1, hK1.out.2.2.1 (by first | rfl | trivial)⟩
      | true =>
        obtain rfl : m = sl.length := hml.out
        obtain ⟨s0, s1, s2, s3, s4, s5⟩ := HQ.out _ hK1.out.1.base
        have hrw := HRD.out.low hK1.out.1.base
        have HRW := hide hrw
        obtain ⟨S, hrow, hpush⟩ := hK1.out.1.row
        have HROW := hide hrow; have HPU := hide hpush
        clear hrw hrow hpush
        go_wp2_with (at_builtin; refine wpList_append_rd rfl (.tmp 48) (.tmp 53) 22 rfl 0 5 i0 (.int .u8 0) 1 1 Try.underlying22 hi0 hz0 hz1 hz2 rfl (by decide) (.slice none 0 0) 0 [] rfl (World.ownsRow_nil _ _ _ _) _ t.b.length (bcells t.b) rfl HRW.out (bcells_one t.b) (by unfold maxLen; omega) (by omega) (by simp) ?_)
        intro v3 w3 hown hgrow hnil hv3
        obtain ⟨ax3, cx3, rfl⟩ := (ownsRow_rd hown).head
        have hb3 : Below wc.heap.size wc w3 := (Below.refl _ _).grown hgrow (Nat.le_refl _) (by simp [Value.ownBlock])
        have hge3 : ∀ g, (Value.slice ax3 t.b.length cx3).ownBlock = some g → wc.heap.size ≤ g := fun g hg => by
          rcases hv3 with e | e
          · rw [hg] at e; simp [Value.ownBlock] at e
          · rw [hg] at e; cases e; exact Nat.le_refl _
        obtain ⟨t0, t1, t2, t3, t4, t5⟩ := HQ.out _ (hK1.out.1.base.trans (hb3.mono hK1.out.1.base.size))
        have hba := hb3.trans ((Below.refl w3.heap.size w3 |>.alloc (Nat.le_refl _) (.cells #[.int .u8 to', .slice ax3 t.b.length cx3] 33)).mono hb3.size)
        have HRO3 := hide (ownsRow_below HROW.out hba (Nat.le_refl _))
        have HBA := hide hba; have HGE3 := hide hge3; have HOW3 := hide (ownsRow_below hown (Below.refl w3.heap.size w3 |>.alloc (Nat.le_refl _) (.cells #[.int .u8 to', .slice ax3 t.b.length cx3] 33)) (Nat.le_refl _))
        clear hown hgrow hnil hv3 hb3 hge3 hba s0 s1 s2 s3 s4 s5
        go_wp2_with (at_builtin; refine wpList_append_rd rfl (.tmp 55) (.tmp 63) 37 rfl 0 33 j0 (.agg #[.int .u8 0, .slice none 0 0]) 2 32 Try.underlying37 hj0 hy0 hy1 hy2 rfl (by decide) (.slice a sl.length c) sl.length (S.flatMap Item.cells) rfl HRO3.out _ 1 [.int .u8 to', .slice ax3 t.b.length cx3] rfl (rd_new _ _ _ 1 2 (by simp) (by simp)) (by simp [Value.oneCell']) (by unfold maxLen; omega) (by omega) (by simp) ?_)
        intro v4 w4 hown4 hgrow4 hnil4 hv4
        have hKp := HPU.out _ w4 v4 to' t.b (.slice ax3 t.b.length cx3) HBA.out rfl HOW3.out HGE3.out hgrow4 hown4 (by simpa using hv4)
        obtain ⟨a4, c4, rfl⟩ := (ownsRow_rd hown4).head
        have HKP := hide hKp
        clear hown4 hgrow4 hnil4 hv4 hKp
        go_wp2
        go_meet
        exact ⟨sl.length + 1, c4, a4, sl ++ [(to', t.b)], rfl, by omega, by simp [Hid], HKP.out, hK1.out.2.1, hK1.out.2.2.2 (by first | rfl | trivial)⟩
    case rest =>
    clear hml hK1 r hmk
    obtain ⟨m2, c2, a2, sl2, rfl, hm2, hml2, hK2⟩ := hcut
    obtain ⟨s0, s1, s2, s3, s4, s5⟩ := HQ.out _ hK2.out.1.base
    go_upto_if 71 with fail
    go_cut [] (fun wx => ∃ l3 : List G, Hid (KS W nb l3 (.slice a2 m2 c2) sl2 wx ∧ Good l3 ∧ KeptP l3 sl2))
    case first =>
      by_cases hk4 : 3 < k' % 8
      · have b4 : decide (3 < k' % 8) = true := by simpa using hk4
        have b4' : decide (3 < k'.tmod 8) = true := by rw [Int.tmod_eq_emod_of_nonneg p1]; exact b4
        have e4 : k'.tmod 8 = k' % 8 := Int.tmod_eq_emod_of_nonneg p1
        have hkp : Hid (KeptP (stepO l1 k' to' t.b i' at_ y) sl2) := hide (kept_step hK2.out.2.2 (by omega) (by omega))
        have hgd : Hid (Good (stepO l1 k' to' t.b i' at_ y)) := hide (stepO_good hK2.out.2.1 p3).1
        generalize hl3 : stepO l1 k' to' t.b i' at_ y = l3 at hkp hgd
        have HL3 := hide hl3
        clear e4 hl3 s0 s1 s2 s3 s4 s5
        go_wp2
        refine wp_region_three 7 127 (by kernel_rfl) (by kernel_rfl) rfl (by kernel_rfl) (fun D v w' => KD W nb l1 l3 (.slice a2 m2 c2) sl2 (D 1) (D 6) (v 1) w') (fun _ => undef) (hK2.out.1.low (Below.refl _ _).drew) ?_
        simp only [List.take_succ_cons, List.take_zero, List.drop_succ_cons, List.drop_zero]
        iterate 1 (refine Hav3.read (e := ?_) (fun v => by rfl) (fun D v w h => h) (fun D v w' hD hS => ?_) ?_; rotate_left; (obtain ⟨s0, s1, s2, s3, s4, s5⟩ := HQ.out _ (KD.base hS); clear hS; first | (go_simp; done) | (go_simp; with_reducible rfl)); go_simp)
        refine Hav3.rel (fun v => by rfl) (fun D v w' hD hS => ?_) ?_
        · have d1 : D 1 = false := hD.self
          have d6 : D 6 = false := hD.post 6 _ rfl (by kernel_rfl)
          have hS2 : KS W nb l1 (.slice a2 m2 c2) sl2 w' := by
            unfold KD at hS
            rw [d1, d6] at hS
            exact hS
          have HS := hide hS2
          clear hS hS2
          go_simp
          go_at_call 15
          refine (ref_new _).mono ?_
          rintro e w'' ⟨rfl, rfl⟩
          have hk := HS.out.made
          have h9 : KD W nb l1 l3 (.slice a2 m2 c2) sl2 (mark D 1 1) (mark D 1 6) (setv v 1 (.pointer (some ⟨w'.heap.size, 0, none⟩)) 1) (w'.alloc (.cells #[.slice none 0 0, .slice none 0 0] 46)) := by
            have m6 : mark D 1 6 = false := d6
            have m1 : mark D 1 1 = true := rfl
            unfold KD
            rw [m6, m1]
            exact ⟨_, rfl, hk⟩
          first
            | exact ⟨rfl, h9⟩
            | exact h9
        go_simp
        iterate 4 (refine Hav3.read (e := ?_) (fun v => by rfl) (fun D v w h => h) (fun D v w' hD hS => ?_) ?_; rotate_left; (obtain ⟨s0, s1, s2, s3, s4, s5⟩ := HQ.out _ (KD.base hS); clear hS; first | (go_simp; done) | (go_simp; with_reducible rfl)); go_simp)
        refine Hav3.rel (fun v => by rfl) (fun D v w' hD hS => ?_) ?_
        · have d6 : D 6 = false := hD.self
          have d1 : D 1 = true := hD.pre 1 (by kernel_rfl)
          have hS2 : ∃ rb, v 1 = .pointer (some ⟨rb, 0, none⟩) ∧ KSR W nb rb l1 (.slice a2 m2 c2) sl2 w' := by
            unfold KD at hS
            rw [d1, d6] at hS
            exact hS
          obtain ⟨rb, hv1, hk⟩ := hS2
          rw [hv1]
          have HK := hide hk; have HV1 := hide hv1
          clear hS hk hv1
          go_simp
          go_at_call 16
          refine (HK.out.does hK2.out.2.1 (kd := k') (b := t.b) (xc := cx) (i := i') (a := at_) (x := y) p3 HRD.out ht5).mono ?_
          rintro e w'' ⟨r, rfl, hr⟩
          rw [HL3.out] at hr
          have h9 : KD W nb l1 l3 (.slice a2 m2 c2) sl2 (mark D 6 1) (mark D 6 6) (setv v 6 (.bool r) 1) w'' := hr
          first
            | exact ⟨rfl, h9⟩
            | exact h9
        go_simp
        refine Hav3.fin (fun v w' hS => ?_)
        have hK : KS W nb l3 (.slice a2 m2 c2) sl2 w' := hS
        have HK := hide hK
        clear hS hK
        go_wp2
        go_meet
        exact ⟨l3, HK.out, hgd.out, hkp.out⟩
      · have b4 : decide (3 < k' % 8) = false := by simpa using hk4
        have b4' : decide (3 < k'.tmod 8) = false := by rw [Int.tmod_eq_emod_of_nonneg p1]; exact b4
        have hk4' : k' % 8 ≤ 3 := by omega
        clear hk4
        go_wp2
        go_meet
        exact ⟨l1, hK2.out⟩
    case rest =>
    clear hK2 l1 s0 s1 s2 s3 s4 s5
    obtain ⟨l3, hK3⟩ := hcut
    go_wp2_with fail
    refine (hK3.out.1.grams hK3.out.2.1).mono ?_
    rintro e w5 ⟨a5, c5, rfl, hG, hb5⟩
    have hll := hK3.out.2.1.len
    have HK5 := hide (hK3.out.1.low hb5); have HG5 := hide hG; have HP := hide hK3.out.2
    clear hG hb5 hK3
    go_wp2
    obtain ⟨n5, hn5⟩ : ∃ n5, n5 = l3.length := ⟨_, rfl⟩
    rw [← hn5] at HG5 hll ⊢
    have HN5 := hide hn5
    clear hn5
    go_loopw [8] (fun i wr => ∃ kk : Nat, kk ≤ n5 ∧ i = .int .i64 kk ∧ Hid (KS W nb l3 (.slice a2 m2 c2) sl2 wr ∧ GramsOf l3 (.slice a5 n5 c5) wr)) (fun i _ => n5 - (intOf i).toNat)
    case atStart => exact ⟨0, Nat.zero_le _, rfl, HK5.out, HG5.out⟩
    case round =>
      obtain ⟨kk, hkk, rfl, hR⟩ := hrel
      obtain ⟨wo2, rfl⟩ : ∃ wo2 : World, wo2 = wr := ⟨_, rfl⟩
      by_cases hltk : kk < n5
      case neg =>
        go_wp2
        go_roundw
        case rel => exact ⟨k + 1, m2, c2, a2, l3, sl2, by omega, by go_num, by omega, rfl, hml2, hR.out.1, HP.out⟩
        case measure => simp [intOf]; omega
      obtain rfl : m2 = sl2.length := hml2.out
      have hkl : kk < l3.length := by rw [← HN5.out]; exact hltk
      obtain ⟨g, hg⟩ : ∃ g, g = l3[kk] := ⟨_, rfl⟩
      have hgg : l3[kk]? = some g := by rw [hg]; exact List.getElem?_eq_getElem hkl
      have hbt : bentAt l3 (kk : Int) = g.bent := by unfold bentAt atG; rw [if_pos (by omega)]; simp [hgg]
      obtain ⟨_, hgl, hg0, hg1⟩ := HP.out.1.each g (List.mem_of_getElem? hgg)
      have HGG := hide hgg
      have k0 : (0 : Int) ≤ (kk : Int) := by omega
      have k1 : (kk : Int) < (n5 : Int) := by omega
      clear hg hgg
      go_wp2_with fail
      refine (hR.out.1.bent HP.out.1 (kk : Int)).mono ?_
      rintro e w6 ⟨rfl, rfl⟩
      rw [hbt]
      clear hbt
      go_wp2
      go_loopw [9, 10] (fun q i wr => ∃ j : Nat, j ≤ sl2.length ∧ i = .int .i64 j ∧ q = .bool (knB g.bent g sl2 j) ∧ Hid (KS W nb l3 (.slice a2 sl2.length c2) sl2 wr ∧ GramsOf l3 (.slice a5 n5 c5) wr)) (fun _ i _ => sl2.length - (intOf i).toNat)
      case atStart => exact ⟨0, Nat.zero_le _, rfl, by simp [knB], hR⟩
      case round =>
        clear hR
        obtain ⟨j, hj, rfl, rfl, hR⟩ := hrel
        by_cases hltj : j < sl2.length
        · obtain ⟨s, hs⟩ : ∃ s, s = sl2[j] := ⟨_, rfl⟩
          have hss : sl2[j]? = some s := by rw [hs]; exact List.getElem?_eq_getElem hltj
          have HKN := hide (knB_succ g.bent g sl2 hss)
          obtain ⟨sb, soff, sc, sax, scx, hsv, u0, u1, urd, ublt⟩ := hR.out.1.sent.get hss
          simp only [Value.slice.injEq, true_and] at hsv
          obtain ⟨rfl, rfl⟩ := hsv
          obtain ⟨gb, goff, gc, gax, gcx, hgv, v0, v1, vrd, vblt⟩ := RdGrams.get hR.out.2 (i := kk) (g := (g.to, g.b)) (by rw [List.getElem?_map, HGG.out]; rfl)
          simp only [Value.slice.injEq, List.length_map] at hgv
          obtain ⟨rfl, hn9, rfl⟩ := hgv
          clear hn9
          simp only at v0 v1 vrd
          have j0 : (0 : Int) ≤ (j : Int) := by omega
          have j1 : (j : Int) < (sl2.length : Int) := by omega
          have c1 := convert_rd s.2 _ wr.drew (urd.low (Below.refl _ _).drew)
          have c2' := convert_rd g.b _ wr.drew (vrd.low (Below.refl _ _).drew)
          have e1 := bytes_toList s.2
          have e2 := bytes_toList g.b
          obtain ⟨q, hq⟩ : ∃ q, q = knB g.bent g sl2 j := ⟨_, rfl⟩
          rw [← hq] at HKN ⊢
          clear hs hss urd vrd hq
          cases q with
          | true =>
            go_wp2
            refine wp_region_three 29 127 (by kernel_rfl) (by kernel_rfl) rfl (by kernel_rfl) (fun D v w' => w' = wr.drew) (fun _ => undef) rfl ?_
            simp only [List.take_succ_cons, List.take_zero, List.drop_succ_cons, List.drop_zero]
            iterate 2 (refine Hav3.read (e := ?_) (fun v => by rfl) (fun D v w h => h) (fun D v w' hD hS => ?_) ?_; rotate_left; (subst hS; first | (go_simp; done) | (go_simp; with_reducible rfl)); go_simp)
            iterate 26 (refine Hav3.skip (fun v => by rfl) (fun D v w h => h) ?_; go_simp)
            iterate 1 (refine Hav3.read (e := ?_) (fun v => by rfl) (fun D v w h => h) (fun D v w' hD hS => ?_) ?_; rotate_left; (subst hS; first | (go_simp; done) | (go_simp; with_reducible rfl)); go_simp)
            refine Hav3.fin (fun v w' hS => ?_)
            subst hS
            have HR2 := hide (And.intro (hR.out.1.low (Below.refl _ _).drew) (RdGrams.low hR.out.2 (Below.refl _ _).drew))
            clear hR
            go_wp2
            go_roundw
            case rel => exact ⟨j + 1, by omega, by go_num, by rw [HKN.out]; rfl, HR2⟩
            case measure => simp [intOf]; omega
          | false =>
            by_cases hto : s.1 = g.to
            · have ht1 : (s.1 == g.to) = true := by simpa using hto
              have HT1 : Hid (decide (s.1 = g.to) = true) := hide (by simpa using hto)
              clear hto
              go_wp2
              refine wp_region_three 29 127 (by kernel_rfl) (by kernel_rfl) rfl (by kernel_rfl) (fun D v w' => w' = wr.drew) (fun _ => undef) rfl ?_
              simp only [List.take_succ_cons, List.take_zero, List.drop_succ_cons, List.drop_zero]
              iterate 29 (refine Hav3.read (e := ?_) (fun v => by rfl) (fun D v w h => h) (fun D v w' hD hS => ?_) ?_; rotate_left; (subst hS; first | (go_simp; done) | (go_simp; with_reducible rfl)); go_simp)
              refine Hav3.fin (fun v w' hS => ?_)
              subst hS
              have HR2 := hide (And.intro (hR.out.1.low (Below.refl _ _).drew) (RdGrams.low hR.out.2 (Below.refl _ _).drew))
              clear hR
              go_wp2
              go_roundw
              case rel => exact ⟨j + 1, by omega, by go_num, by rw [HKN.out, HT1.out]; rfl, HR2⟩
              case measure => simp [intOf]; omega
            · have ht1 : (s.1 == g.to) = false := by simpa using hto
              have HT1 : Hid (decide (s.1 = g.to) = false) := hide (by simpa using hto)
              clear hto
              go_wp2
              refine wp_region_three 29 127 (by kernel_rfl) (by kernel_rfl) rfl (by kernel_rfl) (fun D v w' => w' = wr.drew) (fun _ => undef) rfl ?_
              simp only [List.take_succ_cons, List.take_zero, List.drop_succ_cons, List.drop_zero]
              iterate 14 (refine Hav3.read (e := ?_) (fun v => by rfl) (fun D v w h => h) (fun D v w' hD hS => ?_) ?_; rotate_left; (subst hS; first | (go_simp; done) | (go_simp; with_reducible rfl)); go_simp)
              iterate 13 (refine Hav3.skip (fun v => by rfl) (fun D v w h => h) ?_; go_simp)
              iterate 2 (refine Hav3.read (e := ?_) (fun v => by rfl) (fun D v w h => h) (fun D v w' hD hS => ?_) ?_; rotate_left; (subst hS; first | (go_simp; done) | (go_simp; with_reducible rfl)); go_simp)
              refine Hav3.fin (fun v w' hS => ?_)
              subst hS
              have HR2 := hide (And.intro (hR.out.1.low (Below.refl _ _).drew) (RdGrams.low hR.out.2 (Below.refl _ _).drew))
              clear hR
              go_wp2
              go_roundw
              case rel => exact ⟨j + 1, by omega, by go_num, by rw [HKN.out, HT1.out]; rfl, HR2⟩
              case measure => simp [intOf]; omega
        · obtain rfl : j = sl2.length := by omega
          have hkn : knB g.bent g sl2 sl2.length = true := knB_all HP.out.2 (List.mem_of_getElem? HGG.out)
          rw [hkn]
          clear hkn
          go_wp2
          go_roundw
          case rel => exact ⟨kk + 1, by omega, by go_num, hR⟩
          case measure => simp [intOf]; omega

theorem law_keeps_all (v : Value) (L : List Item) (w : World) (hL : RdItems w 6 v L) (hop : ∀ t ∈ L, IsOp t) (hl : L.length ≤ 9223372036854775807) (hlb : ∀ t ∈ L, t.b.length ≤ 9223372036854775807) :
    Calls Try.prog 6 #[v] w fun e w' => e = .returned (.bool true) ∧ Below w.heap.size w w' := by
  cases h : heavyB L with
  | true => exact law_keeps_known v L w hL hop hl hlb h
  | false => exact law_keeps_goes v L w hL hop hl hlb h
end Go.Proofs.Ytipobpcafkhknaa
