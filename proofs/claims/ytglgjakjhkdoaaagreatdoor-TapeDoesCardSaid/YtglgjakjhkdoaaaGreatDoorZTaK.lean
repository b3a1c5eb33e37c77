/-
  The walks of tape's Sync, lay, Swap; printed by gen_tak.py.
-/
import Derived.Test.YtglgjakjhkdoaaaGreatDoorZTaE
import Derived.Test.YtglgjakjhkdoaaaGreatDoorZTaGTaITaQ
namespace Go.Proofs.YtglgjakjhkdoaaaGreatDoor
open Go.RowKit Go.Maps
set_option linter.unusedVariables false
set_option linter.unusedSimpArgs false

def tpApps (s : FsS) (k : Bs) : List Bs → Int × FsS
  | [] => (0, s)
  | x :: l => if (fsAppend s k (wrapW x)).1 ≠ 0 then fsAppend s k (wrapW x) else tpApps (fsAppend s k (wrapW x)).2 k l
def tpTail (s : FsS) (k : Bs) : Int × FsS := if (fsSync s (tilde k)).1 ≠ 0 then fsSync s (tilde k) else fsRename (fsSync s (tilde k)).2 (tilde k) k
def tpLay (s : FsS) (k : Bs) (l : List Bs) : Int × FsS :=
  if (fsCreate s (tilde k)).1 ≠ 0 then fsCreate s (tilde k)
  else if (tpApps (fsCreate s (tilde k)).2 (tilde k) l).1 ≠ 0 then tpApps (fsCreate s (tilde k)).2 (tilde k) l
  else tpTail (tpApps (fsCreate s (tilde k)).2 (tilde k) l).2 k
def tpSwap (s : FsS) (k : Bs) (l : List Bs) : Int × FsS :=
  if (l.all fun x => decide (x.length ≤ 600)) = false then (1, s)
  else ((tpLay (tpClear s k) k l).1, if (tpLay (tpClear s k) k l).1 ≠ 0 then tpClear (tpLay (tpClear s k) k l).2 k else (tpLay (tpClear s k) k l).2)
theorem tpApps_ok : ∀ (l : List Bs) {s : FsS} (h : s.Ok) (k : Bs), (tpApps s k l).2.Ok
  | [], s, h, k => h
  | x :: l, s, h, k => by
    unfold tpApps
    split
    · exact fsAppend_ok h _ _
    · exact tpApps_ok l (fsAppend_ok h _ _) k
theorem tpApps_snoc : ∀ (l : List Bs) (s : FsS) (k : Bs) (x : Bs), tpApps s k (l ++ [x]) = if (tpApps s k l).1 ≠ 0 then tpApps s k l else fsAppend (tpApps s k l).2 k (wrapW x)
  | [], s, k, x => by
    simp only [List.nil_append, tpApps]
    split
    · simp
    · rename_i h
      simp only [ne_eq, not_true, if_false]
      have : (fsAppend s k (wrapW x)).1 = 0 := by simpa using h
      rw [← this]
  | y :: l, s, k, x => by
    rw [List.cons_append, tpApps, tpApps]
    split
    · rfl
    · exact tpApps_snoc l _ k x
theorem tpTail_ok {s : FsS} (h : s.Ok) (k : Bs) : (tpTail s k).2.Ok := by
  unfold tpTail
  split
  · exact fsSync_ok h _
  · exact fsRename_ok (fsSync_ok h _) _ _
theorem tpLay_ok {s : FsS} (h : s.Ok) (k : Bs) (l : List Bs) : (tpLay s k l).2.Ok := by
  unfold tpLay
  split
  · exact fsCreate_ok h _
  · split
    · exact tpApps_ok l (fsCreate_ok h _) _
    · exact tpTail_ok (tpApps_ok l (fsCreate_ok h _) _) _
theorem tpSwap_ok {s : FsS} (h : s.Ok) (k : Bs) (l : List Bs) : (tpSwap s k l).2.Ok := by
  unfold tpSwap
  split
  · exact h
  · dsimp only
    split
    · exact tpClear_ok (tpLay_ok (tpClear_ok h k) k l) k
    · exact tpLay_ok (tpClear_ok h k) k l
theorem tpApps_stop {s : FsS} {k : Bs} {l : List Bs} {i : Nat} {x : Bs} (hx : l[i]? = some x) (h : (tpApps s k (l.take i)).1 = 0) (hb : (fsAppend (tpApps s k (l.take i)).2 k (wrapW x)).1 ≠ 0) : tpApps s k l = fsAppend (tpApps s k (l.take i)).2 k (wrapW x) := by
  have h1 : tpApps s k (l.take (i + 1)) = fsAppend (tpApps s k (l.take i)).2 k (wrapW x) := by
    rw [List.take_add_one, hx]
    show tpApps s k (l.take i ++ [x]) = _
    rw [tpApps_snoc, if_neg (by simpa using h)]
  have h2 : ∀ (m : List Bs), (tpApps s k (l.take (i + 1) ++ m)) = tpApps s k (l.take (i + 1)) := by
    have key : ∀ (a m : List Bs) (s : FsS), (tpApps s k a).1 ≠ 0 → tpApps s k (a ++ m) = tpApps s k a := by
      intro a
      induction a with
      | nil => intro m s h; exact absurd rfl h
      | cons y a ih =>
        intro m s h
        rw [List.cons_append, tpApps, tpApps]
        rw [tpApps] at h
        split
        · rfl
        · rename_i h9
          rw [if_neg h9] at h
          exact ih m _ h
    intro m
    exact key _ m s (by rw [h1]; exact hb)
  have h3 := h2 (l.drop (i + 1))
  rw [List.take_append_drop] at h3
  rw [h3, h1]

theorem TpBlk.cells {w : World} {tb sb : Nat} {k : Bs} (h : TpBlk w tb sb k) : ∀ w', Below w.heap.size w w' → w'.cell? ⟨tb, 0, none⟩ = some (.pointer (some ⟨sb, 0, none⟩)) ∧ w'.cell? ⟨tb, 1, none⟩ = some (.string ⟨k.toArray⟩) := fun w' hw => by
  obtain ⟨c0, c1, _, hlt⟩ := two_cells h
  exact ⟨(hw.cell (p := ⟨tb, 0, none⟩) hlt).trans c0, (hw.cell (p := ⟨tb, 1, none⟩) hlt).trans c1⟩
theorem FsTo.trans {w w1 w2 : World} {sb : Nat} {F F1 : List Nat} {s : FsS} (h1 : Chg F F1 w w1) (h2 : FsTo w1 sb F1 s w2) : FsTo w sb F s w2 := by
  obtain ⟨F2, g1, g2⟩ := h2
  exact ⟨F2, g1, h1.trans g2⟩
theorem FsTo.after {w w1 w2 : World} {sb : Nat} {F : List Nat} {s : FsS} (h1 : Below w.heap.size w w1) (h2 : FsTo w1 sb F s w2) : FsTo w sb F s w2 := FsTo.trans (Chg.of_below h1) h2

set_option maxRecDepth 100000 in
set_option maxHeartbeats 1600000 in
theorem tp_Sync (tb sb : Nat) (s : FsS) (F : List Nat) (k : Bs) (hk : k.length ≤ 1000000) (w : World) (hB : TpBlk w tb sb k) (h : FsRep w sb s F) (ok : s.Ok) :
    Calls Tryz.prog 30 #[.pointer (some ⟨tb, 0, none⟩)] w fun e w' => e = .returned (.int .u16 (fsSync s k).1) ∧ FsTo w sb F (fsSync s k).2 w' := by
  have H := hide h
  have OK := hide ok
  have hcl := hide hB.cells
  have hkm : k.length ≤ maxLen := by unfold maxLen; omega
  clear h ok hB
  go_enter Tryz.func30, Tryz.ntmps30
  go_wp2_with fail
  refine wp_region_three 8 12 (by kernel_rfl) (by kernel_rfl) rfl (by kernel_rfl) (fun D v w' => Below w.heap.size w w') (fun _ => undef) (Below.refl _ _).drew ?_
  simp only [List.take_succ_cons, List.take_zero, List.drop_succ_cons, List.drop_zero]
  iterate 8 (refine Hav3.read (e := ?_) (fun v => by rfl) (fun D v w h => h) (fun D v w' hD hS => ?_) ?_; rotate_left; (obtain ⟨x0, x1⟩ := hcl.out w' hS; clear hS hD; first | (go_simp; done) | (go_simp; with_reducible rfl)); go_simp)
  refine Hav3.fin (fun v w5 hS => ?_)
  have HS5 := hide hS
  clear hS
  go_wp2_with fail
  refine (fs_Sync sb s F k hkm w5 (H.out.low HS5.out) OK.out).mono ?_
  rintro e w6 ⟨rfl, ht⟩
  have HT := hide ht
  clear ht
  go_wp2
  go_ret
  exact ⟨rfl, FsTo.after HS5.out HT.out⟩

set_option maxRecDepth 100000 in
set_option maxHeartbeats 3200000 in
theorem tp_lay (tb sb : Nat) (s : FsS) (F : List Nat) (k : Bs) (hk : k.length ≤ 1000000) (W w : World) (hO : FsOwn W w sb s F) (hB : TpBlk w tb sb k) (htb : tb ∉ F) (a : Option Addr) (n c : Nat) (L : List Bs) (hL : RdNs W (.slice a n c) L) (hn : n = L.length) (hall : ∀ x ∈ L, x.length ≤ 600) (hm : n ≤ maxLen) :
    Calls Tryz.prog 57 #[.pointer (some ⟨tb, 0, none⟩), .slice a n c] w fun e w' => e = .returned (.int .u16 (tpLay s k L).1) ∧ FsTo w sb F (tpLay s k L).2 w' := by
  have H := hide hO
  have HB := hide hB
  have HN := hide hn
  have HL := hide hL
  have HALL := hide hall
  have hcl := hide hB.cells
  have HTB := hide htb
  have HTL := hide (show (tilde k).length ≤ maxLen by unfold tilde maxLen; simp; omega)
  have hkm : k.length ≤ maxLen := by unfold maxLen; omega
  obtain ⟨e1, he1⟩ : ∃ e, e = (fsCreate s (tilde k)).1 := ⟨_, rfl⟩
  obtain ⟨s1, hs1⟩ : ∃ t, t = (fsCreate s (tilde k)).2 := ⟨_, rfl⟩
  have HE1 := hide he1; have HS1 := hide hs1
  clear hO hB hn hL hall htb he1 hs1
  go_enter Tryz.func57, Tryz.ntmps57
  go_wp2_with fail
  refine wp_region_three 6 60 (by kernel_rfl) (by kernel_rfl) rfl (by kernel_rfl) (fun D v w' => Below w.heap.size w w') (fun _ => undef) (Below.refl _ _).drew ?_
  simp only [List.take_succ_cons, List.take_zero, List.drop_succ_cons, List.drop_zero]
  iterate 5 (refine Hav3.read (e := ?_) (fun v => by rfl) (fun D v w h => h) (fun D v w' hD hS => ?_) ?_; rotate_left; (obtain ⟨x0, x1⟩ := hcl.out w' hS; clear hS hD; first | (go_simp; done) | (go_simp; with_reducible rfl)); go_simp)
  refine Hav3.call (.string ⟨(tilde k).toArray⟩) (fun v => by rfl) (fun D v w' hD hS => ?_) ?_
  · have HS2 := hide hS
    clear hS hD
    go_simp
    go_at_call 64
    refine (tp_other tb sb k w' (HB.out.low HS2.out) hk).mono ?_
    rintro e w'' ⟨rfl, rfl⟩
    exact ⟨rfl, HS2.out⟩
  go_simp
  refine Hav3.fin (fun v w2 hS => ?_)
  have HS2 := hide hS
  clear hS
  go_wp2_with fail
  refine (fs_Create sb s F (tilde k) HTL.out w2 (H.out.rep.low HS2.out) H.out.ok).mono ?_
  rintro e w3 ⟨rfl, ht⟩
  have HT3 := hide (FsTo.after HS2.out ht)
  rw [← HE1.out]
  rw [← HS1.out] at HT3
  clear ht
  by_cases h1 : e1 = 0
  case neg =>
    have d1 : (e1 == 0) = false := by simpa using h1
    have d2 : (e1 != 0) = true := by simpa using h1
    have hend := hide (show tpLay s k L = (e1, s1) by unfold tpLay; rw [← HE1.out, if_pos h1, HE1.out, HS1.out])
    clear h1
    go_wp2
    go_ret
    rw [hend.out]
    exact ⟨rfl, HT3.out⟩
  subst h1
  obtain ⟨F3, hO3, hC3⟩ := H.out.step HT3.out (by rw [HS1.out]; exact fsCreate_ok H.out.ok _)
  have HO3 := hide hO3; have HC3 := hide hC3
  clear hO3 hC3 HT3
  obtain ⟨w0, hw0⟩ : ∃ w0, w0 = w := ⟨_, rfl⟩
  go_upto_block 0 with fail
  go_cut [] (fun wx => ∃ F' s', Hid (FsOwn W wx sb s' F') ∧ Hid (Chg F F' w wx) ∧ Hid (tpApps s1 (tilde k) L = (0, s')))
  case first =>
    go_wp2_with fail
    go_loopw [22] (fun iv wr => ∃ (i : Nat) (F' : List Nat) (s' : FsS), iv = .int .i64 i ∧ i ≤ n ∧ Hid (FsOwn W wr sb s' F') ∧ Hid (Chg F F' w wr) ∧ Hid (tpApps s1 (tilde k) (L.take i) = (0, s'))) (fun iv _ => match iv with | .int _ j => n - j.toNat | _ => 0)
    case atStart => exact ⟨0, F3, s1, rfl, Nat.zero_le _, HO3, HC3, hide (by simp [tpApps])⟩
    case round =>
      obtain ⟨i, F', s', rfl, hi, hO, hC, hA⟩ := hrel
      by_cases hil : i < n
      · have i0 : decide ((i : Int) < n) = true := by simpa using hil
        obtain ⟨bb, off, cc, xa, xn, xc, he, ec, er, en, g1, g2, hbb⟩ := (HL.out.low hO.out.low).at (k := i) (by have := HN.out; omega)
        obtain ⟨x, hx⟩ : ∃ x, x = L[i]'(by have := HN.out; omega) := ⟨_, rfl⟩
        rw [← hx] at er en
        simp only [Value.slice.injEq] at he
        obtain ⟨rfl, -, rfl⟩ := he
        have hlx : L[i]? = some x := by rw [hx]; exact List.getElem?_eq_getElem _
        have HER := hide er; have HEN := hide en; have HLX := hide hlx
        have hx6 : xn ≤ 600 := by rw [en, hx]; exact HALL.out _ (List.getElem_mem _)
        clear er en hlx hx
        have hwi : IntKind.i64.wrap ((i : Int) + 1) = (i : Int) + 1 := wrap64 (by omega) (by have := HN.out; unfold maxLen at hm; omega)
        have hBr := hide (HB.out.chg hC.out HTB.out)
        have hclr := hide hBr.out.cells
        obtain ⟨X, hX⟩ : ∃ X, X = wrapW x := ⟨_, rfl⟩
        have hXl : X.length ≤ 700 := by rw [hX]; have := wrap_length x; have := HEN.out; omega
        have HX := hide hX
        clear hX
        obtain ⟨e2, he2⟩ : ∃ e, e = (fsAppend s' (tilde k) X).1 := ⟨_, rfl⟩
        obtain ⟨s2, hs2⟩ : ∃ t, t = (fsAppend s' (tilde k) X).2 := ⟨_, rfl⟩
        have HE2 := hide he2; have HS2' := hide hs2
        clear he2 hs2
        obtain ⟨wb, hwb⟩ : ∃ wb, wb = wr := ⟨_, rfl⟩
        go_wp2_with fail
        refine wp_region_three 8 60 (by kernel_rfl) (by kernel_rfl) rfl (by kernel_rfl) (fun D v w' => Below wr.heap.size wr w' ∧ (D 7 = true → ∃ a' c', v 7 = .slice a' X.length c' ∧ w'.ownsRow wr.heap.size 5 1 (.slice a' X.length c') X.length (bcells X))) (fun _ => undef) ⟨(Below.refl _ _).drew, fun h => by cases h⟩ ?_
        simp only [List.take_succ_cons, List.take_zero, List.drop_succ_cons, List.drop_zero]
        iterate 5 (refine Hav3.read (e := ?_) (fun v => by rfl) (fun D v w h => h) (fun D v w' hD hS => ?_) ?_; rotate_left; (obtain ⟨x0, x1⟩ := hclr.out w' hS.1; clear hS hD; first | (go_simp; done) | (go_simp; with_reducible rfl)); go_simp)
        refine Hav3.call (.string ⟨(tilde k).toArray⟩) (fun v => by rfl) (fun D v w' hD hS => ?_) ?_
        · have HSA := hide hS
          clear hS hD
          go_simp
          go_at_call 64
          refine (tp_other tb sb k w' (hBr.out.low HSA.out.1) hk).mono ?_
          rintro e w'' ⟨rfl, rfl⟩
          exact ⟨rfl, HSA.out.1, HSA.out.2⟩
        go_simp
        iterate 1 (refine Hav3.read (e := ?_) (fun v => by rfl) (fun D v w h => h) (fun D v w' hD hS => ?_) ?_; rotate_left; (skip; clear hS hD; first | (go_simp; done) | (go_simp; with_reducible rfl)); go_simp)
        refine Hav3.rel (fun v => by rfl) (fun D v w' hD hS => ?_) ?_
        · have HS := hide hS.1
          clear hS hD
          go_simp
          go_at_call 48
          have hw := st_Wrap0 x xa xc w' (by rw [← HEN.out]; exact HER.out.low HS.out) (by rw [← HEN.out]; exact g1) g2 (by rw [← HEN.out]; omega) (by rw [← HEN.out]; exact fun h0 j hj => Nat.lt_of_lt_of_le (HER.out.lt0 HEN.out h0 j hj) HS.out.size)
          rw [← HEN.out] at hw
          refine hw.mono ?_
          clear hw
          rintro e w'' ⟨a', c', rfl, hown, hb⟩
          rw [← HX.out] at hown ⊢
          exact ⟨HS.out.trans (hb.mono HS.out.size), fun _ => ⟨a', c', rfl, ownsRow_base hown HS.out.size⟩⟩
        go_simp
        refine Hav3.fin (fun v w5 hS => ?_)
        obtain ⟨a', c', hv7, hown⟩ := hS.2 rfl
        have HS5 := hide hS.1
        have HOWN := hide hown
        rw [hv7]
        obtain ⟨pn, hpn⟩ : ∃ pn, pn = X.length := ⟨_, rfl⟩
        rw [← hpn]
        have HPN := hide hpn
        have hpl : pn ≤ 700 := by omega
        clear hS hv7 hown hpn
        go_wp2_with fail
        refine (fs_Append sb s' F' (tilde k) HTL.out a' pn c' X w5 (hO.out.rep.low HS5.out) hO.out.ok (by rw [HPN.out]; exact ownsRow_rd HOWN.out) HPN.out (by omega) (fun _ j hj hm => by have := (HOWN.out.lt j (by rw [← HPN.out]; exact hj)).1; have := hO.out.rep.lt j hm; omega)).mono ?_
        rintro e w6 ⟨rfl, ht⟩
        have HT := hide (FsTo.after HS5.out ht)
        clear ht
        rw [← HE2.out]
        rw [← HS2'.out] at HT
        have hst : Hid (e2 ≠ 0 → tpLay s k L = (e2, s2)) := hide fun h => by
          have h9 := hA.out
          have h8 : tpApps s1 (tilde k) L = (e2, s2) := by
            rw [tpApps_stop HLX.out (by rw [h9]) (by rw [h9, ← HX.out]; rw [← HE2.out]; exact h), h9, ← HX.out, HE2.out, HS2'.out]
          unfold tpLay
          rw [← HE1.out, if_neg (by simp), ← HS1.out, h8, if_pos h]
        have hnx : Hid (e2 = 0 → tpApps s1 (tilde k) (L.take (i + 1)) = (0, s2)) := hide fun h => by
          have h9 := hA.out
          rw [List.take_add_one, HLX.out]
          show tpApps s1 (tilde k) (L.take i ++ [x]) = _
          rw [tpApps_snoc, h9, if_neg (by simp), ← HX.out, HS2'.out, ← h, HE2.out]
        obtain ⟨F6, hO6, hC6⟩ := hO.out.step HT.out (by rw [HS2'.out]; exact fsAppend_ok hO.out.ok _ _)
        have HO6 := hide hO6; have HC6 := hide (hC.out.trans hC6)
        clear hO6 hC6 HT
        by_cases h2 : e2 = 0
        · subst h2
          have hnx2 := hide (hnx.out rfl)
          clear hnx hst
          go_wp2
          exact ⟨⟨i + 1, F6, s2, by simp, hil, HO6, HC6, hnx2⟩, by show n - ((i : Int) + 1).toNat < n - ((i : Nat) : Int).toNat; omega⟩
        · have d1 : (e2 == 0) = false := by simpa using h2
          have d2 : (e2 != 0) = true := by simpa using h2
          have hst2 := hide (hst.out h2)
          clear hnx hst h2
          go_wp2
          go_ret
          rw [hst2.out]
          exact ⟨rfl, F6, HO6.out.rep, HC6.out⟩
      · have i0 : decide ((i : Int) < n) = false := decide_eq_false (by omega)
        obtain rfl : i = n := by omega
        go_wp2
        go_meet
        exact ⟨F', s', hO, hC, hide (by have h9 := hA.out; rw [List.take_of_length_le (by have := HN.out; omega)] at h9; exact h9)⟩
  case rest =>
    obtain ⟨F', s', hO, hC, hA⟩ := hcut
    have hBr := hide (HB.out.chg hC.out HTB.out)
    have hclr := hide hBr.out.cells
    have hend : Hid (tpLay s k L = tpTail s' k) := hide (by unfold tpLay; rw [← HE1.out, if_neg (by simp), ← HS1.out, hA.out, if_neg (by simp)])
    obtain ⟨e4, he4⟩ : ∃ e, e = (fsSync s' (tilde k)).1 := ⟨_, rfl⟩
    obtain ⟨s4, hs4⟩ : ∃ t, t = (fsSync s' (tilde k)).2 := ⟨_, rfl⟩
    have HE4 := hide he4; have HS4' := hide hs4
    clear he4 hs4 hA HO3 HC3
    go_wp2_with fail
    refine wp_region_three 6 60 (by kernel_rfl) (by kernel_rfl) rfl (by kernel_rfl) (fun D v w' => Below wc.heap.size wc w') (fun _ => undef) (Below.refl _ _).drew ?_
    simp only [List.take_succ_cons, List.take_zero, List.drop_succ_cons, List.drop_zero]
    iterate 5 (refine Hav3.read (e := ?_) (fun v => by rfl) (fun D v w h => h) (fun D v w' hD hS => ?_) ?_; rotate_left; (obtain ⟨x0, x1⟩ := hclr.out w' hS; clear hS hD; first | (go_simp; done) | (go_simp; with_reducible rfl)); go_simp)
    refine Hav3.call (.string ⟨(tilde k).toArray⟩) (fun v => by rfl) (fun D v w' hD hS => ?_) ?_
    · have HS2 := hide hS
      clear hS hD
      go_simp
      go_at_call 64
      refine (tp_other tb sb k w' (hBr.out.low HS2.out) hk).mono ?_
      rintro e w'' ⟨rfl, rfl⟩
      exact ⟨rfl, HS2.out⟩
    go_simp
    refine Hav3.fin (fun v w2 hS => ?_)
    have HS2 := hide hS
    clear hS
    go_wp2_with fail
    refine (fs_Sync sb s' F' (tilde k) HTL.out w2 (hO.out.rep.low HS2.out) hO.out.ok).mono ?_
    rintro e w4 ⟨rfl, ht⟩
    have HT4 := hide (FsTo.after HS2.out ht)
    rw [← HE4.out]
    rw [← HS4'.out] at HT4
    clear ht
    obtain ⟨F4, hO4, hC4⟩ := hO.out.step HT4.out (by rw [HS4'.out]; exact fsSync_ok hO.out.ok _)
    have HO4 := hide hO4; have HC4 := hide (hC.out.trans hC4)
    clear hO4 hC4 HT4
    by_cases h4 : e4 = 0
    case neg =>
      have d1 : (e4 == 0) = false := by simpa using h4
      have d2 : (e4 != 0) = true := by simpa using h4
      have hend2 := hide (show tpLay s k L = (e4, s4) by rw [hend.out]; unfold tpTail; rw [← HE4.out, if_pos h4, HE4.out, HS4'.out])
      clear h4
      go_wp2
      go_ret
      rw [hend2.out]
      exact ⟨rfl, F4, HO4.out.rep, HC4.out⟩
    subst h4
    have hend2 := hide (show tpLay s k L = fsRename s4 (tilde k) k by rw [hend.out]; unfold tpTail; rw [← HE4.out, if_neg (by simp), HS4'.out])
    have hB4 := hide (HB.out.chg HC4.out HTB.out)
    have hcl4 := hide hB4.out.cells
    clear hend
    go_wp2_with fail
    refine wp_region_three 10 60 (by kernel_rfl) (by kernel_rfl) rfl (by kernel_rfl) (fun D v w' => Below w4.heap.size w4 w') (fun _ => undef) (Below.refl _ _).drew ?_
    simp only [List.take_succ_cons, List.take_zero, List.drop_succ_cons, List.drop_zero]
    iterate 5 (refine Hav3.read (e := ?_) (fun v => by rfl) (fun D v w h => h) (fun D v w' hD hS => ?_) ?_; rotate_left; (obtain ⟨x0, x1⟩ := hcl4.out w' hS; clear hS hD; first | (go_simp; done) | (go_simp; with_reducible rfl)); go_simp)
    refine Hav3.call (.string ⟨(tilde k).toArray⟩) (fun v => by rfl) (fun D v w' hD hS => ?_) ?_
    · have HS2 := hide hS
      clear hS hD
      go_simp
      go_at_call 64
      refine (tp_other tb sb k w' (hB4.out.low HS2.out) hk).mono ?_
      rintro e w'' ⟨rfl, rfl⟩
      exact ⟨rfl, HS2.out⟩
    go_simp
    iterate 4 (refine Hav3.read (e := ?_) (fun v => by rfl) (fun D v w h => h) (fun D v w' hD hS => ?_) ?_; rotate_left; (obtain ⟨x0, x1⟩ := hcl4.out w' hS; clear hS hD; first | (go_simp; done) | (go_simp; with_reducible rfl)); go_simp)
    refine Hav3.fin (fun v w5 hS => ?_)
    have HS5 := hide hS
    clear hS
    go_wp2_with fail
    refine (fs_Rename sb s4 F4 (tilde k) k HTL.out hkm w5 (HO4.out.rep.low HS5.out) HO4.out.ok).mono ?_
    rintro e w6 ⟨rfl, ht⟩
    have HT6 := hide (FsTo.trans HC4.out (FsTo.after HS5.out ht))
    clear ht
    go_wp2
    go_ret
    rw [hend2.out]
    exact ⟨rfl, HT6.out⟩

set_option maxRecDepth 100000 in
set_option maxHeartbeats 1600000 in
theorem tp_Swap (tb sb : Nat) (s : FsS) (F : List Nat) (k : Bs) (hk : k.length ≤ 1000000) (W w : World) (hO : FsOwn W w sb s F) (hB : TpBlk w tb sb k) (htb : tb ∉ F) (a : Option Addr) (n c : Nat) (L : List Bs) (hL : RdNs W (.slice a n c) L) (hn : n = L.length) (hm : n ≤ maxLen) :
    Calls Tryz.prog 32 #[.pointer (some ⟨tb, 0, none⟩), .slice a n c] w fun e w' => e = .returned (.int .u16 (tpSwap s k L).1) ∧ FsTo w sb F (tpSwap s k L).2 w' := by
  have H := hide hO
  have HB := hide hB
  have HN := hide hn
  have HL := hide hL
  have HTB := hide htb
  clear hO hB hn hL htb
  go_enter Tryz.func32, Tryz.ntmps32
  go_wp2
  go_loopw [10] (fun iv wr => ∃ i : Nat, iv = .int .i64 i ∧ i ≤ n ∧ Hid (∀ x ∈ L.take i, x.length ≤ 600) ∧ w = wr) (fun iv _ => match iv with | .int _ j => n - j.toNat | _ => 0)
  case atStart => exact ⟨0, rfl, Nat.zero_le _, hide (by simp), rfl⟩
  case round =>
    obtain ⟨i, rfl, hi, hall, rfl⟩ := hrel
    by_cases hil : i < n
    · have i0 : decide ((i : Int) < n) = true := by simpa using hil
      obtain ⟨bb, off, cc, xa, xn, xc, he, ec, er, en, g1, g2, hbb⟩ := (HL.out.low H.out.low).at (k := i) (by have := HN.out; omega)
      simp only [Value.slice.injEq] at he
      obtain ⟨rfl, -, rfl⟩ := he
      have hwi : IntKind.i64.wrap ((i : Int) + 1) = (i : Int) + 1 := wrap64 (by omega) (by have := HN.out; unfold maxLen at hm; omega)
      have hbig : Hid (600 < xn → tpSwap s k L = (1, s)) := hide fun h => by
        unfold tpSwap
        rw [if_pos]
        cases h9 : L.all fun x => decide (x.length ≤ 600) with
        | false => rfl
        | true =>
          have := List.all_eq_true.1 h9 _ (List.getElem_mem (by have := HN.out; omega : i < L.length))
          have := of_decide_eq_true this
          omega
      have hnx : Hid (xn ≤ 600 → ∀ x ∈ L.take (i + 1), x.length ≤ 600) := hide fun g => take_all' (by have := HN.out; omega) hall.out (by rw [← en]; exact g)
      clear er en hall
      by_cases h6 : 600 < xn
      · have d6 : decide ((600 : Int) < xn) = true := decide_eq_true (by omega)
        have hb2 := hide (hbig.out h6)
        clear hbig hnx
        go_wp2
        go_ret
        rw [hb2.out]
        exact ⟨rfl, FsTo.refl H.out.rep⟩
      · have d6 : decide ((600 : Int) < xn) = false := decide_eq_false (by omega)
        have hn2 := hide (hnx.out (by omega))
        clear hbig hnx
        go_wp2
        exact ⟨⟨i + 1, by simp, hil, hn2, by trivial⟩, by show n - ((i : Int) + 1).toNat < n - ((i : Nat) : Int).toNat; omega⟩
    · have i0 : decide ((i : Int) < n) = false := decide_eq_false (by omega)
      obtain rfl : i = n := by omega
      have hall2 : Hid (∀ x ∈ L, x.length ≤ 600) := hide (by have h9 := hall.out; rw [List.take_of_length_le (by have := HN.out; omega)] at h9; exact h9)
      clear hall
      obtain ⟨e1, he1⟩ : ∃ e, e = (tpLay (tpClear s k) k L).1 := ⟨_, rfl⟩
      obtain ⟨s1, hs1⟩ : ∃ t, t = (tpLay (tpClear s k) k L).2 := ⟨_, rfl⟩
      have hend : Hid (tpSwap s k L = (e1, if e1 ≠ 0 then tpClear s1 k else s1)) := hide (by
        unfold tpSwap
        rw [if_neg (by simpa using hall2.out), he1, hs1])
      have HE1 := hide he1; have HS1 := hide hs1
      clear he1 hs1
      go_wp2_with fail
      refine (tp_clear tb sb s F k hk w HB.out H.out.rep H.out.ok).mono ?_
      rintro e w2 ⟨rfl, ht⟩
      obtain ⟨F2, hO2, hC2⟩ := H.out.step ht (tpClear_ok H.out.ok k)
      have HO2 := hide hO2; have HC2 := hide hC2
      have hnf2 : Hid (tb ∉ F2) := hide fun hm => by
        rcases hC2.fresh _ hm with h | h
        · exact HTB.out h
        · have := HB.out.lt; omega
      clear ht hO2 hC2
      go_wp2_with fail
      refine (tp_lay tb sb _ F2 k hk W w2 HO2.out (HB.out.chg HC2.out HTB.out) hnf2.out a i c L HL.out HN.out hall2.out hm).mono ?_
      rintro e w3 ⟨rfl, ht⟩
      rw [← HE1.out]
      rw [← HS1.out] at ht
      obtain ⟨F3, hO3, hC3⟩ := HO2.out.step ht (by rw [HS1.out]; exact tpLay_ok HO2.out.ok k L)
      have HO3 := hide hO3; have HC3 := hide (HC2.out.trans hC3)
      clear ht hO3 hC3
      by_cases h1 : e1 = 0
      · subst h1
        go_wp2
        go_ret
        rw [hend.out]
        exact ⟨rfl, F3, HO3.out.rep, HC3.out⟩
      · have d1 : (e1 == 0) = false := by simpa using h1
        have d2 : (e1 != 0) = true := by simpa using h1
        have hend2 : Hid (tpSwap s k L = (e1, tpClear s1 k)) := hide (by rw [hend.out, if_pos h1])
        clear hend h1
        go_wp2_with fail
        refine (tp_clear tb sb s1 F3 k hk w3 (HB.out.chg HC3.out HTB.out) HO3.out.rep HO3.out.ok).mono ?_
        rintro e w4 ⟨rfl, ht⟩
        have HT4 := hide (FsTo.trans HC3.out ht)
        clear ht
        go_wp2
        go_ret
        rw [hend2.out]
        exact ⟨rfl, HT4.out⟩
end Go.Proofs.YtglgjakjhkdoaaaGreatDoor
