/-
The document's journals: swap, Swap.
The document's journals: Swap.
-/
import Derived.Test.YtglgjakjhkdoaaaGreatDoorZDoADoPTaT
namespace Go.Proofs.YtglgjakjhkdoaaaGreatDoor
open Go.RowKit Go.Maps
set_option linter.unusedVariables false
set_option linter.unusedSimpArgs false

def tpLaid (s : FsS) (k : Bs) (l : List Bs) : Int × FsS :=
  if (fsCreate s (tilde k)).1 ≠ 0 then fsCreate s (tilde k) else tpApps (fsCreate s (tilde k)).2 (tilde k) l
theorem tpLay_laid (s : FsS) (k : Bs) (l : List Bs) : tpLay s k l = if (tpLaid s k l).1 ≠ 0 then tpLaid s k l else tpTail (tpLaid s k l).2 k := by
  unfold tpLay tpLaid
  by_cases h : (fsCreate s (tilde k)).1 ≠ 0
  · rw [if_pos h, if_pos h, if_pos h]
  · rw [if_neg h, if_neg h]

set_option maxRecDepth 100000 in
set_option maxHeartbeats 3200000 in
theorem rt_swap (ub rb : Nat) (s : FsS) (F : List Nat) (k : Bs) (hk : k.length ≤ 1000000) (W w : World) (hO : RfOwn W w rb s F) (hB : RtBlk w ub rb k) (htb : ub ∉ F) (a : Option Addr) (n c : Nat) (L : List Bs) (hL : RdNs W (.slice a n c) L) (hn : n = L.length) (hall : ∀ x ∈ L, x.length ≤ 600) (hm : n ≤ maxLen) :
    Calls Tryz.prog 58 #[.pointer (some ⟨ub, 0, none⟩), .slice a n c] w fun e w' => e = .returned (.int .i64 (tpLay s k L).1) ∧ RfTo w rb F (tpLay s k L).2 w' := by
  have H := hide hO
  have HB := hide hB
  have HN := hide hn
  have HL := hide hL
  have HALL := hide hall
  have hcl := hide hB.cells
  have HTB := hide htb
  have HTL := hide (show (tilde k).length ≤ maxLen by unfold tilde maxLen; simp; omega)
  have HT := hide (tilde_cat k)
  have hkm : k.length ≤ maxLen := by unfold maxLen; omega
  obtain ⟨e1, he1⟩ : ∃ e, e = (fsCreate s (tilde k)).1 := ⟨_, rfl⟩
  obtain ⟨s1, hs1⟩ : ∃ t, t = (fsCreate s (tilde k)).2 := ⟨_, rfl⟩
  have HE1 := hide he1; have HS1 := hide hs1
  clear hO hB hn hL hall htb he1 hs1
  obtain ⟨x0, x1⟩ := hcl.out w (Below.refl _ _)
  go_enter Tryz.func58, Tryz.ntmps58
  go_wp2_with fail
  rw [HT.out]
  refine (rf_Create rb s F (tilde k) HTL.out w H.out.rep H.out.ok).mono ?_
  rintro e w3 ⟨rfl, ht⟩
  rw [← HE1.out]
  rw [← HS1.out] at ht
  obtain ⟨F3, hO3, hC3⟩ := H.out.step ht (by rw [HS1.out]; exact fsCreate_ok H.out.ok _)
  have HO3 := hide hO3; have HC3 := hide hC3
  clear ht hO3 hC3 x0 x1
  have HLA : Hid (∀ er s' i, er = 0 → e1 = 0 → tpApps s1 (tilde k) (L.take i) = (er, s') → n ≤ i → tpLaid s k L = (er, s')) := hide fun er s' i h0 h1 h2 h3 => by
    rw [List.take_of_length_le (by have := HN.out; omega)] at h2
    unfold tpLaid
    rw [← HE1.out, if_neg (by simpa using h1), ← HS1.out, h2]
  go_upto_block 0 with fail
  go_cut [6] (fun ev wx => ∃ (er : Int) (F' : List Nat) (s' : FsS), ev = .int .i64 er ∧ Hid (RfOwn W wx rb s' F') ∧ Hid (Chg F F' w wx) ∧ Hid (tpLaid s k L = (er, s')))
  case first =>
    go_wp2_with fail
    go_loopw [6, 7] (fun ev iv wr => ∃ (i : Nat) (er : Int) (F' : List Nat) (s' : FsS), ev = .int .i64 er ∧ iv = .int .i64 i ∧ i ≤ n ∧ Hid (RfOwn W wr rb s' F') ∧ Hid (Chg F F' w wr) ∧ Hid ((er = 0 → e1 = 0 ∧ tpApps s1 (tilde k) (L.take i) = (0, s')) ∧ (er ≠ 0 → tpLaid s k L = (er, s')))) (fun _ iv _ => match iv with | .int _ j => n - j.toNat | _ => 0)
    case atStart => exact ⟨0, e1, F3, s1, rfl, rfl, Nat.zero_le _, HO3, HC3, hide ⟨fun h => ⟨h, by simp [tpApps]⟩, fun h => by unfold tpLaid; rw [← HE1.out, if_pos h, HS1.out, HE1.out]⟩⟩
    case round =>
      obtain ⟨i, er, F', s', rfl, rfl, hi, hO, hC, hA⟩ := hrel
      by_cases hil : i < n
      · have i0 : decide ((i : Int) < n) = true := by simpa using hil
        by_cases her : er = 0
        · subst her
          have hA1 := hide (hA.out.1 rfl)
          clear hA
          obtain ⟨bb, off, cc, xa, xn, xc, he, ec, erd, en, g1, g2, hbb⟩ := (HL.out.low hO.out.low).at (k := i) (by have := HN.out; omega)
          obtain ⟨x, hx⟩ : ∃ x, x = L[i]'(by have := HN.out; omega) := ⟨_, rfl⟩
          rw [← hx] at erd en
          simp only [Value.slice.injEq] at he
          obtain ⟨rfl, -, rfl⟩ := he
          have hlx : L[i]? = some x := by rw [hx]; exact List.getElem?_eq_getElem _
          have HER := hide erd; have HEN := hide en; have HLX := hide hlx
          have hx6 : xn ≤ 600 := by rw [en, hx]; exact HALL.out _ (List.getElem_mem _)
          clear erd en hlx hx
          have hwi : IntKind.i64.wrap ((i : Int) + 1) = (i : Int) + 1 := wrap64 (by omega) (by have := HN.out; unfold maxLen at hm; omega)
          have hBr := hide (HB.out.chg hC.out HTB.out)
          have hclr := hide hBr.out.cells
          obtain ⟨X, hX⟩ : ∃ X, X = wrapW x := ⟨_, rfl⟩
          have hXl : X.length ≤ 700 := by rw [hX]; have := wrap_length x; have := HEN.out; omega
          have HX := hide hX
          clear hX
          obtain ⟨e2, he2⟩ : ∃ e, e = (fsAppend s' (tilde k) X).1 := ⟨_, rfl⟩
          obtain ⟨s2, hs2⟩ : ∃ t, t = (fsAppend s' (tilde k) X).2 := ⟨_, rfl⟩
          have HE2 := hide he2; have HS2' := hide hs2
          clear he2 hs2
          have hce : Hid (∀ w', Below wr.heap.size wr w' → w'.cell? ⟨bb, off + i, none⟩ = some (.slice xa xn xc)) := hide fun w' hw => (hw.cell (p := ⟨bb, off + i, none⟩) hbb).trans ec
          clear ec
          go_wp2_with fail
          refine wp_region_three 10 61 (by kernel_rfl) (by kernel_rfl) rfl (by kernel_rfl) (fun D v w' => Below wr.heap.size wr w' ∧ (D 9 = true → ∃ a' c', v 9 = .slice a' X.length c' ∧ w'.ownsRow wr.heap.size 5 1 (.slice a' X.length c') X.length (bcells X))) (fun _ => undef) ⟨(Below.refl _ _).drew, fun h => by cases h⟩ ?_
          simp only [List.take_succ_cons, List.take_zero, List.drop_succ_cons, List.drop_zero]
          iterate 9 (refine Hav3.read (e := ?_) (fun v => by rfl) (fun D v w h => h) (fun D v w' hD hS => ?_) ?_; rotate_left; (obtain ⟨x0, x1⟩ := hclr.out w' hS.1; have ec := hce.out w' hS.1; clear hS hD; first | (go_simp; done) | (go_simp; with_reducible rfl)); go_simp)
          refine Hav3.rel (fun v => by rfl) (fun D v w' hD hS => ?_) ?_
          · have HS := hide hS.1
            clear hS hD
            go_simp
            go_at_call 62
            refine (ref_Wrap0 x xa xn xc w' HEN.out (HER.out.low HS.out) g1 g2 (by omega) (fun h0 j hj => Nat.lt_of_lt_of_le (HER.out.lt0 HEN.out h0 j hj) HS.out.size)).mono ?_
            rintro e w'' ⟨a', n', c', rfl, hn', hown, hb, hsz⟩
            rw [← HX.out] at hown hn'
            subst hn'
            exact ⟨HS.out.trans (hb.mono HS.out.size), fun _ => ⟨a', c', rfl, ownsRow_base hown HS.out.size⟩⟩
          go_simp
          refine Hav3.fin (fun v w5 hS => ?_)
          obtain ⟨a', c', hv7, hown⟩ := hS.2 rfl
          have HS5 := hide hS.1
          have HOWN := hide hown
          rw [hv7]
          obtain ⟨pn, hpn⟩ : ∃ pn, pn = X.length := ⟨_, rfl⟩
          rw [← hpn]
          have HPN := hide hpn
          have hpl : pn ≤ 700 := by omega
          clear hS hv7 hown hpn
          go_wp2_with fail
          refine (rf_Append rb s' F' (tilde k) HTL.out a' pn c' X w5 (hO.out.rep.low HS5.out) hO.out.ok (by rw [HPN.out]; exact ownsRow_rd HOWN.out) HPN.out (by omega) (fun _ j hj hm => by have := (HOWN.out.lt j (by rw [← HPN.out]; exact hj)).1; have := hO.out.rep.lt j hm; omega)).mono ?_
          rintro e w6 ⟨rfl, ht⟩
          have HT2 := hide (RfTo.after HS5.out ht)
          clear ht
          rw [← HE2.out]
          rw [← HS2'.out] at HT2
          have hst : Hid (e2 ≠ 0 → tpLaid s k L = (e2, s2)) := hide fun h => by
            have h9 := hA1.out.2
            have h8 : tpApps s1 (tilde k) L = (e2, s2) := by
              rw [tpApps_stop HLX.out (by rw [h9]) (by rw [h9, ← HX.out]; rw [← HE2.out]; exact h), h9, ← HX.out, HE2.out, HS2'.out]
            unfold tpLaid
            rw [← HE1.out, if_neg (by simpa using hA1.out.1), ← HS1.out, h8]
          have hnx : Hid (e2 = 0 → tpApps s1 (tilde k) (L.take (i + 1)) = (0, s2)) := hide fun h => by
            have h9 := hA1.out.2
            rw [List.take_add_one, HLX.out]
            show tpApps s1 (tilde k) (L.take i ++ [x]) = _
            rw [tpApps_snoc, h9, if_neg (by simp), ← HX.out, HS2'.out, ← h, HE2.out]
          have he10 : Hid (e1 = 0) := hide hA1.out.1
          obtain ⟨F6, hO6, hC6⟩ := hO.out.step HT2.out (by rw [HS2'.out]; exact fsAppend_ok hO.out.ok _ _)
          have HO6 := hide hO6; have HC6 := hide (hC.out.trans hC6)
          clear hO6 hC6 HT2
          go_wp2
          exact ⟨⟨i + 1, e2, F6, s2, by trivial, by simp, hil, HO6, HC6, hide ⟨fun h => ⟨he10.out, hnx.out h⟩, hst.out⟩⟩, by show n - ((i : Int) + 1).toNat < n - ((i : Nat) : Int).toNat; omega⟩
        · have d1 : (er == 0) = false := by simpa using her
          have h8 := hide (hA.out.2 her)
          clear her
          go_wp2
          go_meet
          exact ⟨er, F', s', rfl, hO, hC, h8⟩
      · have i0 : decide ((i : Int) < n) = false := decide_eq_false (by omega)
        have h8 : Hid (tpLaid s k L = (er, s')) := hide (by
          by_cases her : er = 0
          · obtain ⟨g1, g2⟩ := hA.out.1 her
            rw [her]
            exact HLA.out 0 s' i rfl g1 g2 (by omega)
          · exact hA.out.2 her)
        go_wp2
        go_meet
        exact ⟨er, F', s', rfl, hO, hC, h8⟩
  case rest =>
    obtain ⟨er, F', s', rfl, hO, hC, hA⟩ := hcut
    have hend : Hid (tpLay s k L = if er ≠ 0 then (er, s') else tpTail s' k) := hide (by rw [tpLay_laid, hA.out])
    have hBr := hide (HB.out.chg hC.out HTB.out)
    clear hA HLA HO3 HC3
    by_cases her : er = 0
    case neg =>
      have d1 : (er == 0) = false := by simpa using her
      have hend2 : Hid (tpLay s k L = (er, s')) := hide (by rw [hend.out, if_pos her])
      clear her
      go_wp2
      go_ret
      rw [hend2.out]
      exact ⟨rfl, F', hO.out.rep, hC.out⟩
    subst her
    obtain ⟨e4, he4⟩ : ∃ e, e = (fsSync s' (tilde k)).1 := ⟨_, rfl⟩
    obtain ⟨s4, hs4⟩ : ∃ t, t = (fsSync s' (tilde k)).2 := ⟨_, rfl⟩
    have HE4 := hide he4; have HS4' := hide hs4
    clear he4 hs4
    obtain ⟨x0, x1⟩ := hBr.out.cells wc (Below.refl _ _)
    go_wp2_with fail
    refine (rf_Sync rb s' F' (tilde k) HTL.out wc hO.out.rep hO.out.ok).mono ?_
    rintro e w4 ⟨rfl, ht⟩
    rw [← HE4.out]
    rw [← HS4'.out] at ht
    obtain ⟨F4, hO4, hC4⟩ := hO.out.step ht (by rw [HS4'.out]; exact fsSync_ok hO.out.ok _)
    have HO4 := hide hO4; have HC4 := hide (hC.out.trans hC4)
    clear hO4 hC4 ht x0 x1
    by_cases h4 : e4 = 0
    case neg =>
      have d1 : (e4 == 0) = false := by simpa using h4
      have hend2 := hide (show tpLay s k L = (e4, s4) by rw [hend.out, if_neg (by simp)]; unfold tpTail; rw [← HE4.out, if_pos h4, HE4.out, HS4'.out])
      clear h4
      go_wp2
      go_ret
      rw [hend2.out]
      exact ⟨rfl, F4, HO4.out.rep, HC4.out⟩
    subst h4
    have hend2 := hide (show tpLay s k L = fsRename s4 (tilde k) k by rw [hend.out, if_neg (by simp)]; unfold tpTail; rw [← HE4.out, if_neg (by simp), HS4'.out])
    have hB4 := hide (HB.out.chg HC4.out HTB.out)
    have hcl4 := hide hB4.out.cells
    clear hend
    go_wp2_with fail
    refine wp_region_three 9 61 (by kernel_rfl) (by kernel_rfl) rfl (by kernel_rfl) (fun D v w' => Below w4.heap.size w4 w') (fun _ => undef) (Below.refl _ _).drew ?_
    simp only [List.take_succ_cons, List.take_zero, List.drop_succ_cons, List.drop_zero]
    iterate 9 (refine Hav3.read (e := ?_) (fun v => by rfl) (fun D v w h => h) (fun D v w' hD hS => ?_) ?_; rotate_left; (obtain ⟨x0, x1⟩ := hcl4.out w' hS; clear hS hD; first | (go_simp; done) | (go_simp; with_reducible rfl)); go_simp)
    refine Hav3.fin (fun v w5 hS => ?_)
    have HS5 := hide hS
    clear hS
    go_wp2_with fail
    refine (rf_Rename rb s4 F4 (tilde k) k HTL.out hkm w5 (HO4.out.rep.low HS5.out) HO4.out.ok).mono ?_
    rintro e w6 ⟨rfl, ht⟩
    have HT6 := hide (RfTo.trans HC4.out (RfTo.after HS5.out ht))
    clear ht
    go_wp2
    go_ret
    rw [hend2.out]
    exact ⟨rfl, HT6.out⟩
end Go.Proofs.YtglgjakjhkdoaaaGreatDoor

namespace Go.Proofs.YtglgjakjhkdoaaaGreatDoor
open Go.RowKit Go.Maps
set_option linter.unusedVariables false
set_option linter.unusedSimpArgs false

set_option maxRecDepth 100000 in
set_option maxHeartbeats 3200000 in
theorem rt_Swap (ub rb : Nat) (s : FsS) (F : List Nat) (k : Bs) (hk : k.length ≤ 1000000) (W w : World) (hO : RfOwn W w rb s F) (hB : RtBlk w ub rb k) (htb : ub ∉ F) (a : Option Addr) (n c : Nat) (L : List Bs) (hL : RdNs W (.slice a n c) L) (hn : n = L.length) (hm : n ≤ maxLen) :
    Calls Tryz.prog 33 #[.pointer (some ⟨ub, 0, none⟩), .slice a n c] w fun e w' => e = .returned (.int .i64 (tpSwap s k L).1) ∧ RfTo w rb F (tpSwap s k L).2 w' := by
  have H := hide hO
  have HB := hide hB
  have HN := hide hn
  have HL := hide hL
  have HTB := hide htb
  have HTL := hide (show (tilde k).length ≤ maxLen by unfold tilde maxLen; simp; omega)
  have HT := hide (tilde_cat k)
  have hcat : ¬ (9223372036854775807 < List.length k + 1) := by omega
  clear hO hB hn hL htb
  go_enter Tryz.func33, Tryz.ntmps33
  go_wp2
  go_loopw [5] (fun iv wr => ∃ i : Nat, iv = .int .i64 i ∧ i ≤ n ∧ Hid (∀ x ∈ L.take i, x.length ≤ 600) ∧ w = wr) (fun iv _ => match iv with | .int _ j => n - j.toNat | _ => 0)
  case atStart => exact ⟨0, rfl, Nat.zero_le _, hide (by simp), rfl⟩
  case round =>
    obtain ⟨i, rfl, hi, hall, rfl⟩ := hrel
    by_cases hil : i < n
    · have i0 : decide ((i : Int) < n) = true := by simpa using hil
      obtain ⟨bb, off, cc, xa, xn, xc, he, ec, er, en, g1, g2, hbb⟩ := (HL.out.low H.out.low).at (k := i) (by have := HN.out; omega)
      simp only [Value.slice.injEq] at he
      obtain ⟨rfl, -, rfl⟩ := he
      have hwi : IntKind.i64.wrap ((i : Int) + 1) = (i : Int) + 1 := wrap64 (by omega) (by have := HN.out; unfold maxLen at hm; omega)
      have hbig : Hid (600 < xn → tpSwap s k L = (1, s)) := hide fun h => by
        unfold tpSwap
        rw [if_pos]
        cases h9 : L.all fun x => decide (x.length ≤ 600) with
        | false => rfl
        | true =>
          have := List.all_eq_true.1 h9 _ (List.getElem_mem (by have := HN.out; omega : i < L.length))
          have := of_decide_eq_true this
          omega
      have hnx : Hid (xn ≤ 600 → ∀ x ∈ L.take (i + 1), x.length ≤ 600) := hide fun g => take_all' (by have := HN.out; omega) hall.out (by rw [← en]; exact g)
      clear er en hall
      by_cases h6 : 600 < xn
      · have d6 : decide ((600 : Int) < xn) = true := decide_eq_true (by omega)
        have hb2 := hide (hbig.out h6)
        clear hbig hnx
        go_wp2
        go_ret
        rw [hb2.out]
        exact ⟨rfl, RfTo.refl H.out.rep⟩
      · have d6 : decide ((600 : Int) < xn) = false := decide_eq_false (by omega)
        have hn2 := hide (hnx.out (by omega))
        clear hbig hnx
        go_wp2
        exact ⟨⟨i + 1, by simp, hil, hn2, by trivial⟩, by show n - ((i : Int) + 1).toNat < n - ((i : Nat) : Int).toNat; omega⟩
    · have i0 : decide ((i : Int) < n) = false := decide_eq_false (by omega)
      obtain rfl : i = n := by omega
      have hall2 : Hid (∀ x ∈ L, x.length ≤ 600) := hide (by have h9 := hall.out; rw [List.take_of_length_le (by have := HN.out; omega)] at h9; exact h9)
      clear hall
      obtain ⟨s0, hs0⟩ : ∃ t, t = tpClear s k := ⟨_, rfl⟩
      obtain ⟨e1, he1⟩ : ∃ e, e = (tpLay s0 k L).1 := ⟨_, rfl⟩
      obtain ⟨s1, hs1⟩ : ∃ t, t = (tpLay s0 k L).2 := ⟨_, rfl⟩
      have hend : Hid (tpSwap s k L = (e1, if e1 ≠ 0 then tpClear s1 k else s1)) := hide (by
        unfold tpSwap
        rw [if_neg (by simpa using hall2.out), he1, hs1, hs0])
      have HE1 := hide he1; have HS1 := hide hs1; have HS0 := hide hs0
      clear he1 hs1 hs0
      have hcl := hide HB.out.cells
      obtain ⟨b0, hb0⟩ : ∃ b, b = s.has (tilde k) := ⟨_, rfl⟩
      have HB0 := hide hb0
      clear hb0
      go_wp2_with fail
      refine wp_region_three 9 71 (by kernel_rfl) (by kernel_rfl) rfl (by kernel_rfl) (fun D v w' => Below w.heap.size w w') (fun _ => undef) (Below.refl _ _).drew ?_
      simp only [List.take_succ_cons, List.take_zero, List.drop_succ_cons, List.drop_zero]
      iterate 8 (refine Hav3.read (e := ?_) (fun v => by rfl) (fun D v w h => h) (fun D v w' hD hS => ?_) ?_; rotate_left; (obtain ⟨x0, x1⟩ := hcl.out w' hS; clear hS hD; first | (go_simp; done) | (go_simp; with_reducible rfl)); go_simp)
      refine Hav3.read (e := ?_) (fun v => by rfl) (fun D v w h => h) (fun D v w' hD hS => ?_) ?_; rotate_left; (clear hS hD; go_simp; with_reducible rfl)
      go_simp
      refine Hav3.fin (fun v w2 hS => ?_)
      have HS2 := hide hS
      clear hS
      go_wp2_with fail
      rw [HT.out]
      refine (rt_there rb s F (tilde k) HTL.out w2 (H.out.rep.low HS2.out) H.out.ok).mono ?_
      rintro e w3 ⟨rfl, hb3⟩
      rw [← HB0.out]
      have HS3 := hide (HS2.out.trans (hb3.mono HS2.out.size))
      clear hb3 HS2
      go_upto_if 31 with fail
      go_cut [] (fun wx => ∃ F1, Hid (RfOwn W wx rb s0 F1) ∧ Hid (Chg F F1 w wx))
      case first =>
        cases b0 with
        | false =>
          have e : Hid (s0 = s) := hide (by rw [HS0.out]; unfold tpClear; rw [← HB0.out]; rfl)
          go_wp2
          go_meet
          exact ⟨F, hide (by rw [e.out]; exact H.out.then HS3.out), hide (Chg.of_below HS3.out)⟩
        | true =>
          have e : Hid (s0 = (fsRemove s (tilde k)).2) := hide (by rw [HS0.out]; unfold tpClear; rw [← HB0.out]; rfl)
          have hcl3 := hide (HB.out.low HS3.out).cells
          go_wp2_with fail
          refine wp_region_three 9 71 (by kernel_rfl) (by kernel_rfl) rfl (by kernel_rfl) (fun D v w' => Below w3.heap.size w3 w') (fun _ => undef) (Below.refl _ _).drew ?_
          simp only [List.take_succ_cons, List.take_zero, List.drop_succ_cons, List.drop_zero]
          iterate 8 (refine Hav3.read (e := ?_) (fun v => by rfl) (fun D v w h => h) (fun D v w' hD hS => ?_) ?_; rotate_left; (obtain ⟨x0, x1⟩ := hcl3.out w' hS; clear hS hD; first | (go_simp; done) | (go_simp; with_reducible rfl)); go_simp)
          refine Hav3.read (e := ?_) (fun v => by rfl) (fun D v w h => h) (fun D v w' hD hS => ?_) ?_; rotate_left; (clear hS hD; go_simp; with_reducible rfl)
          go_simp
          refine Hav3.fin (fun v w4 hS => ?_)
          have HO4 := hide ((H.out.then HS3.out).then hS)
          have HC4 := hide (Chg.of_below (HS3.out.trans (hS.mono HS3.out.size)) (F := F))
          clear hS
          go_wp2_with fail
          rw [HT.out]
          refine (rf_Remove rb s F (tilde k) HTL.out w4 HO4.out.rep HO4.out.ok).mono ?_
          rintro e2 w5 ⟨rfl, ht⟩
          rw [← e.out] at ht
          obtain ⟨F5, hO5, hC5⟩ := HO4.out.step ht (by rw [e.out]; exact fsRemove_ok H.out.ok _)
          have HO5 := hide hO5; have HC5 := hide (HC4.out.trans hC5)
          clear ht hO5 hC5
          go_wp2
          go_meet
          exact ⟨F5, HO5, HC5⟩
      case rest =>
      obtain ⟨F1, HO1, HC1⟩ := hcut
      have HB1 := hide (HB.out.chg HC1.out HTB.out)
      have hnf1 : Hid (ub ∉ F1) := hide fun hm => by
        rcases HC1.out.fresh _ hm with h | h
        · exact HTB.out h
        · have := HB.out.lt; omega
      clear HS3 w3
      go_wp2_with fail
      refine (rt_swap ub rb s0 F1 k hk W wc HO1.out HB1.out hnf1.out a i c L HL.out HN.out hall2.out hm).mono ?_
      rintro e w3 ⟨rfl, ht⟩
      rw [← HE1.out]
      rw [← HS1.out] at ht
      obtain ⟨F3, hO3, hC3⟩ := HO1.out.step ht (by rw [HS1.out]; exact tpLay_ok HO1.out.ok k L)
      have HO3 := hide hO3; have HC3 := hide (HC1.out.trans hC3)
      clear ht hO3 hC3
      have HB3 := hide (HB.out.chg HC3.out HTB.out)
      have hcl3 := hide HB3.out.cells
      obtain ⟨b1, hb1⟩ : ∃ b, b = s1.has (tilde k) := ⟨_, rfl⟩
      have HBB1 := hide hb1
      clear hb1
      go_wp2_with fail
      refine wp_region_three 9 71 (by kernel_rfl) (by kernel_rfl) rfl (by kernel_rfl) (fun D v w' => Below w3.heap.size w3 w') (fun _ => undef) (Below.refl _ _).drew ?_
      simp only [List.take_succ_cons, List.take_zero, List.drop_succ_cons, List.drop_zero]
      iterate 8 (refine Hav3.read (e := ?_) (fun v => by rfl) (fun D v w h => h) (fun D v w' hD hS => ?_) ?_; rotate_left; (obtain ⟨x0, x1⟩ := hcl3.out w' hS; clear hS hD; first | (go_simp; done) | (go_simp; with_reducible rfl)); go_simp)
      refine Hav3.read (e := ?_) (fun v => by rfl) (fun D v w h => h) (fun D v w' hD hS => ?_) ?_; rotate_left; (clear hS hD; go_simp; with_reducible rfl)
      go_simp
      refine Hav3.fin (fun v w4 hS => ?_)
      have HS4 := hide hS
      clear hS
      go_wp2_with fail
      rw [HT.out]
      refine (rt_there rb s1 F3 (tilde k) HTL.out w4 (HO3.out.rep.low HS4.out) HO3.out.ok).mono ?_
      rintro e w5 ⟨rfl, hb5⟩
      rw [← HBB1.out]
      have HO5 := hide (HO3.out.then (HS4.out.trans (hb5.mono HS4.out.size)))
      have HC5 := hide (HC3.out.trans (Chg.of_below (HS4.out.trans (hb5.mono HS4.out.size)) (F := F3)))
      clear hb5 HS4
      by_cases h1 : e1 = 0
      · subst h1
        go_wp2
        go_ret
        rw [hend.out]
        exact ⟨rfl, F3, HO5.out.rep, HC5.out⟩
      · have d1 : (e1 == 0) = false := by simpa using h1
        have d2 : (e1 != 0) = true := by simpa using h1
        cases b1 with
        | false =>
          have hend2 : Hid (tpSwap s k L = (e1, s1)) := hide (by rw [hend.out, if_pos h1]; unfold tpClear; rw [← HBB1.out]; rfl)
          clear hend h1
          go_wp2
          go_ret
          rw [hend2.out]
          exact ⟨rfl, F3, HO5.out.rep, HC5.out⟩
        | true =>
          have hend2 : Hid (tpSwap s k L = (e1, (fsRemove s1 (tilde k)).2)) := hide (by rw [hend.out, if_pos h1]; unfold tpClear; rw [← HBB1.out]; rfl)
          have hcl5 := hide (HB.out.chg HC5.out HTB.out).cells
          clear hend h1
          go_wp2_with fail
          refine wp_region_three 9 71 (by kernel_rfl) (by kernel_rfl) rfl (by kernel_rfl) (fun D v w' => Below w5.heap.size w5 w') (fun _ => undef) (Below.refl _ _).drew ?_
          simp only [List.take_succ_cons, List.take_zero, List.drop_succ_cons, List.drop_zero]
          iterate 8 (refine Hav3.read (e := ?_) (fun v => by rfl) (fun D v w h => h) (fun D v w' hD hS => ?_) ?_; rotate_left; (obtain ⟨x0, x1⟩ := hcl5.out w' hS; clear hS hD; first | (go_simp; done) | (go_simp; with_reducible rfl)); go_simp)
          refine Hav3.read (e := ?_) (fun v => by rfl) (fun D v w h => h) (fun D v w' hD hS => ?_) ?_; rotate_left; (clear hS hD; go_simp; with_reducible rfl)
          go_simp
          refine Hav3.fin (fun v w6 hS => ?_)
          have HS6 := hide hS
          clear hS
          go_wp2_with fail
          rw [HT.out]
          refine (rf_Remove rb s1 F3 (tilde k) HTL.out w6 (HO5.out.rep.low HS6.out) HO5.out.ok).mono ?_
          rintro e2 w7 ⟨rfl, ht⟩
          have HT7 := hide (RfTo.trans HC5.out (RfTo.after HS6.out ht))
          clear ht
          go_wp2
          go_ret
          rw [hend2.out]
          exact ⟨rfl, HT7.out⟩
end Go.Proofs.YtglgjakjhkdoaaaGreatDoor
