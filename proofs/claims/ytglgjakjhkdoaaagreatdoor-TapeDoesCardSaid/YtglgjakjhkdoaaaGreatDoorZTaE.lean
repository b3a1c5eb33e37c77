/-
  The walks of tape's other, has, clear, Append; the journal as plain data.
-/
import Derived.Test.YtglgjakjhkdoaaaGreatDoorZTaC
import Derived.Test.YtglgjakjhkdoaaaGreatDoorZStD
import Derived.Test.YtglgjakjhkdoaaaGreatDoorZFsNFsOA
import Derived.Test.YtglgjakjhkdoaaaGreatDoorZFsNAFsPRfMFsXC
import Derived.Test.YtglgjakjhkdoaaaGreatDoorZFsT
namespace Go.Proofs.YtglgjakjhkdoaaaGreatDoor
open Go.RowKit Go.Maps
set_option linter.unusedVariables false
set_option linter.unusedSimpArgs false

def tilde (k : Bs) : Bs := k ++ [126]
def tpClear (s : FsS) (k : Bs) : FsS := if s.has (tilde k) then (fsRemove s (tilde k)).2 else s
def tpAppend (s : FsS) (k note : Bs) : Int × FsS := if 600 < note.length then (1, s) else fsAppend s k (wrapW note)
def tpMade (s : FsS) (k : Bs) : Int × FsS := if s.has k then (0, s) else fsCreate s k
def tpGot (s : FsS) (k : Bs) : Bs := if s.has k then s.get k else []
def tpCut (s : FsS) (k : Bs) : FsS := if (tpRead (tpGot s k)).2 < (tpGot s k).length then (fsCut s k (tpRead (tpGot s k)).2).2 else s
def tpOpen (s : FsS) (k : Bs) : Int × FsS × List Bs :=
  if k.length = 0 ∨ 16 ≤ k.length then (1, s, [])
  else if (tpMade (tpClear s k) k).1 ≠ 0 then ((tpMade (tpClear s k) k).1, (tpMade (tpClear s k) k).2, [])
  else (0, tpCut (tpMade (tpClear s k) k).2 k, (tpRead (tpGot (tpMade (tpClear s k) k).2 k)).1)
theorem tpClear_ok {s : FsS} (h : s.Ok) (k : Bs) : (tpClear s k).Ok := by
  unfold tpClear
  split
  · exact fsRemove_ok h _
  · exact h
theorem tpMade_ok {s : FsS} (h : s.Ok) (k : Bs) : (tpMade s k).2.Ok := by
  unfold tpMade
  split
  · exact h
  · exact fsCreate_ok h _
theorem tpCut_ok {s : FsS} (h : s.Ok) (k : Bs) : (tpCut s k).Ok := by
  unfold tpCut
  split
  · exact fsCut_ok h _ _
  · exact h
theorem tpAppend_ok {s : FsS} (h : s.Ok) (k b : Bs) : (tpAppend s k b).2.Ok := by
  unfold tpAppend
  split
  · exact h
  · exact fsAppend_ok h _ _
theorem tpOpen_ok {s : FsS} (h : s.Ok) (k : Bs) : (tpOpen s k).2.1.Ok := by
  unfold tpOpen
  split
  · exact h
  · split
    · exact tpMade_ok (tpClear_ok h k) k
    · exact tpCut_ok (tpMade_ok (tpClear_ok h k) k) k

def TpBlk (w : World) (tb sb : Nat) (k : Bs) : Prop := w.heap[tb]? = some (.cells #[.pointer (some ⟨sb, 0, none⟩), .string ⟨k.toArray⟩] 87 (0, 0))
theorem TpBlk.low {w w' : World} {tb sb : Nat} {k : Bs} (h : TpBlk w tb sb k) (hb : Below w.heap.size w w') : TpBlk w' tb sb k := (hb.block tb (Array.getElem?_eq_some_iff.1 h).1).trans h
theorem TpBlk.chg {w w' : World} {tb sb : Nat} {k : Bs} {F F' : List Nat} (h : TpBlk w tb sb k) (hc : Chg F F' w w') (hn : tb ∉ F) : TpBlk w' tb sb k := (hc.block tb (Array.getElem?_eq_some_iff.1 h).1 hn).trans h
theorem TpBlk.lt {w : World} {tb sb : Nat} {k : Bs} (h : TpBlk w tb sb k) : tb < w.heap.size := (Array.getElem?_eq_some_iff.1 h).1
theorem tilde_cat (k : Bs) : (⟨k.toArray⟩ : ByteArray) ++ ⟨#[126]⟩ = ⟨(tilde k).toArray⟩ := by
  apply ByteArray.ext
  simp [tilde]

set_option maxRecDepth 100000 in
set_option maxHeartbeats 800000 in
theorem tp_other (tb sb : Nat) (k : Bs) (w : World) (h : TpBlk w tb sb k) (hk : k.length ≤ 1000000) : Calls Tryz.prog 64 #[.pointer (some ⟨tb, 0, none⟩)] w fun e w' => e = .returned (.string ⟨(tilde k).toArray⟩) ∧ w = w' := by
  obtain ⟨c0, c1, cf, hlt⟩ := two_cells h
  have htl := tilde_cat k
  have HT := hide htl
  clear h htl
  go_enter Tryz.func64, Tryz.ntmps64
  go_wp2
  go_ret
  exact ⟨by rw [← HT.out]; rfl, rfl⟩

set_option maxRecDepth 100000 in
set_option maxHeartbeats 800000 in
theorem tp_has (sb : Nat) (s : FsS) (F : List Nat) (k : Bs) (hk : k.length ≤ maxLen) (w : World) (h : FsRep w sb s F) (ok : s.Ok) : Calls Tryz.prog 45 #[.pointer (some ⟨sb, 0, none⟩), .string ⟨k.toArray⟩] w fun e w' => e = .returned (.bool (s.has k)) ∧ Below w.heap.size w w' := by
  have HR := hide (fs_Read sb s F k hk w h ok)
  obtain ⟨hb, hhb⟩ : ∃ hb, hb = s.has k := ⟨_, rfl⟩
  have HHB := hide hhb
  clear h ok
  cases hb with
  | true =>
    rw [← hhb]
    clear hhb
    go_enter Tryz.func45, Tryz.ntmps45
    go_wp2_with fail
    refine HR.out.mono ?_
    rintro e w2 hr
    unfold ReadTold at hr
    rw [← HHB.out, if_pos rfl] at hr
    obtain ⟨ra, rn, rc, rfl, hfr⟩ := hr
    have HB := hide hfr.2.2
    clear hfr
    go_wp2
    go_ret
    exact ⟨rfl, HB.out⟩
  | false =>
    rw [← hhb]
    clear hhb
    go_enter Tryz.func45, Tryz.ntmps45
    go_wp2_with fail
    refine HR.out.mono ?_
    rintro e w2 hr
    unfold ReadTold at hr
    rw [← HHB.out, if_neg (by simp)] at hr
    obtain ⟨rfl, rfl⟩ := hr
    go_wp2
    go_ret
    exact ⟨rfl, Below.refl _ _⟩

set_option maxRecDepth 100000 in
set_option maxHeartbeats 1600000 in
theorem tp_clear (tb sb : Nat) (s : FsS) (F : List Nat) (k : Bs) (hk : k.length ≤ 1000000) (w : World) (hB : TpBlk w tb sb k) (h : FsRep w sb s F) (ok : s.Ok) :
    Calls Tryz.prog 44 #[.pointer (some ⟨tb, 0, none⟩)] w fun e w' => e = .returned (.tuple #[]) ∧ FsTo w sb F (tpClear s k) w' := by
  have H := hide h
  have OK := hide ok
  have HB := hide hB
  have HTL := hide (show (tilde k).length ≤ maxLen by unfold tilde maxLen; simp; omega)
  obtain ⟨c0, c1, cf, hlt⟩ := two_cells hB
  have hcl : Hid (∀ w', Below w.heap.size w w' → w'.cell? ⟨tb, 0, none⟩ = some (.pointer (some ⟨sb, 0, none⟩)) ∧ w'.cell? ⟨tb, 1, none⟩ = some (.string ⟨k.toArray⟩)) := hide fun w' hw => ⟨(hw.cell (p := ⟨tb, 0, none⟩) hlt).trans c0, (hw.cell (p := ⟨tb, 1, none⟩) hlt).trans c1⟩
  obtain ⟨bo, hbo⟩ : ∃ bo, bo = s.has (tilde k) := ⟨_, rfl⟩
  have HBO := hide hbo
  clear h ok hB c0 c1 cf hbo
  go_enter Tryz.func44, Tryz.ntmps44
  go_wp2_with fail
  refine wp_region_three 7 16 (by kernel_rfl) (by kernel_rfl) rfl (by kernel_rfl) (fun D v w' => Below w.heap.size w w') (fun _ => undef) (Below.refl _ _).drew ?_
  simp only [List.take_succ_cons, List.take_zero, List.drop_succ_cons, List.drop_zero]
  iterate 5 (refine Hav3.read (e := ?_) (fun v => by rfl) (fun D v w h => h) (fun D v w' hD hS => ?_) ?_; rotate_left; (obtain ⟨x0, x1⟩ := hcl.out w' hS; clear hS hD; first | (go_simp; done) | (go_simp; with_reducible rfl)); go_simp)
  refine Hav3.call (.string ⟨(tilde k).toArray⟩) (fun v => by rfl) (fun D v w' hD hS => ?_) ?_
  · have HS := hide hS
    clear hS hD
    go_simp
    go_at_call 64
    refine (tp_other tb sb k w' (HB.out.low HS.out) hk).mono ?_
    rintro e w'' ⟨rfl, rfl⟩
    exact ⟨rfl, HS.out⟩
  go_simp
  refine Hav3.call (.bool bo) (fun v => by rfl) (fun D v w' hD hS => ?_) ?_
  · have HS := hide hS
    clear hS hD
    go_simp
    go_at_call 45
    refine (tp_has sb s F (tilde k) HTL.out w' (H.out.low HS.out) OK.out).mono ?_
    rintro e w'' ⟨rfl, hb⟩
    exact ⟨by rw [HBO.out], HS.out.trans (hb.mono HS.out.size)⟩
  go_simp
  refine Hav3.fin (fun v w4 hS => ?_)
  have HS := hide hS
  clear hS
  cases bo with
  | false =>
    have e : tpClear s k = s := by unfold tpClear; rw [← HBO.out]; rfl
    have HE := hide e
    clear e
    go_wp2
    go_end0
    rw [HE.out]
    exact ⟨rfl, F, H.out.low HS.out, Chg.of_below HS.out⟩
  | true =>
    have e : tpClear s k = (fsRemove s (tilde k)).2 := by unfold tpClear; rw [← HBO.out]; rfl
    have HE := hide e
    clear e
    have hcl4 : Hid (∀ w', Below w4.heap.size w4 w' → w'.cell? ⟨tb, 0, none⟩ = some (.pointer (some ⟨sb, 0, none⟩)) ∧ w'.cell? ⟨tb, 1, none⟩ = some (.string ⟨k.toArray⟩)) := hide fun w' hw => hcl.out w' (HS.out.trans (hw.mono HS.out.size))
    go_wp2_with fail
    refine wp_region_three 6 16 (by kernel_rfl) (by kernel_rfl) rfl (by kernel_rfl) (fun D v w' => Below w4.heap.size w4 w') (fun _ => undef) (Below.refl _ _).drew ?_
    simp only [List.take_succ_cons, List.take_zero, List.drop_succ_cons, List.drop_zero]
    iterate 5 (refine Hav3.read (e := ?_) (fun v => by rfl) (fun D v w h => h) (fun D v w' hD hS => ?_) ?_; rotate_left; (obtain ⟨x0, x1⟩ := hcl4.out w' hS; clear hS hD; first | (go_simp; done) | (go_simp; with_reducible rfl)); go_simp)
    refine Hav3.call (.string ⟨(tilde k).toArray⟩) (fun v => by rfl) (fun D v w' hD hS => ?_) ?_
    · have HS2 := hide hS
      clear hS hD
      go_simp
      go_at_call 64
      refine (tp_other tb sb k w' ((HB.out.low HS.out).low HS2.out) hk).mono ?_
      rintro e w'' ⟨rfl, rfl⟩
      exact ⟨rfl, HS2.out⟩
    go_simp
    refine Hav3.fin (fun v w5 hS => ?_)
    have HS5 := hide (HS.out.trans (hS.mono HS.out.size))
    clear hS
    go_wp2_with fail
    refine (fs_Remove sb s F (tilde k) HTL.out w5 (H.out.low HS5.out) OK.out).mono ?_
    rintro e w6 ⟨rfl, ht⟩
    have HT := hide ht
    clear ht
    go_wp2
    go_end0
    rw [HE.out]
    obtain ⟨F', h1, h2⟩ := HT.out
    exact ⟨rfl, F', h1, (Chg.of_below HS5.out).trans h2⟩

set_option maxRecDepth 100000 in
set_option maxHeartbeats 1600000 in
theorem tp_Append (tb sb : Nat) (s : FsS) (F : List Nat) (k : Bs) (hk : k.length ≤ 1000000) (a : Option Addr) (n c : Nat) (note : Bs) (w : World) (hB : TpBlk w tb sb k) (h : FsRep w sb s F) (ok : s.Ok) (hx : RdB w (.slice a n c) note) (hn : n = note.length) (hle : n ≤ c) (hc : c ≤ 9223372036854775807) (hlt : 0 < n → ∀ j, (Value.slice a n c).ownBlock = some j → j < w.heap.size) :
    Calls Tryz.prog 16 #[.pointer (some ⟨tb, 0, none⟩), .slice a n c] w fun e w' => e = .returned (.int .u16 (tpAppend s k note).1) ∧ FsTo w sb F (tpAppend s k note).2 w' := by
  have H := hide h
  have OK := hide ok
  have HB := hide hB
  have HX := hide hx
  have HN := hide hn
  have HLT := hide hlt
  obtain ⟨c0, c1, cf, htl⟩ := two_cells hB
  have hcl : Hid (∀ w', Below w.heap.size w w' → w'.cell? ⟨tb, 0, none⟩ = some (.pointer (some ⟨sb, 0, none⟩)) ∧ w'.cell? ⟨tb, 1, none⟩ = some (.string ⟨k.toArray⟩)) := hide fun w' hw => ⟨(hw.cell (p := ⟨tb, 0, none⟩) htl).trans c0, (hw.cell (p := ⟨tb, 1, none⟩) htl).trans c1⟩
  have hkm : k.length ≤ maxLen := by unfold maxLen; omega
  clear h ok hB c0 c1 cf hx hlt
  by_cases hbig : 600 < n
  · have e : tpAppend s k note = (1, s) := by unfold tpAppend; rw [← hn, if_pos hbig]
    rw [e]
    have d1 : decide ((600 : Int) < n) = true := decide_eq_true (by omega)
    clear e hn
    go_enter Tryz.func16, Tryz.ntmps16
    go_wp2
    go_ret
    exact ⟨rfl, FsTo.refl H.out⟩
  · have e : tpAppend s k note = fsAppend s k (wrapW note) := by unfold tpAppend; rw [← hn, if_neg hbig]
    rw [e]
    have d1 : decide ((600 : Int) < n) = false := decide_eq_false (by omega)
    obtain ⟨X, hX⟩ : ∃ X, X = wrapW note := ⟨_, rfl⟩
    rw [← hX]
    have hXl : X.length ≤ 700 := by rw [hX]; have := wrap_length note; omega
    have HX2 := hide hX
    clear e hn hX
    go_enter Tryz.func16, Tryz.ntmps16
    go_wp2_with fail
    refine wp_region_three 10 19 (by kernel_rfl) (by kernel_rfl) rfl (by kernel_rfl) (fun D v w' => Below w.heap.size w w' ∧ (D 9 = true → ∃ a' c', v 9 = .slice a' X.length c' ∧ w'.ownsRow w.heap.size 5 1 (.slice a' X.length c') X.length (bcells X))) (fun _ => undef) ⟨(Below.refl _ _).drew, fun h => by cases h⟩ ?_
    simp only [List.take_succ_cons, List.take_zero, List.drop_succ_cons, List.drop_zero]
    iterate 9 (refine Hav3.read (e := ?_) (fun v => by rfl) (fun D v w h => h) (fun D v w' hD hS => ?_) ?_; rotate_left; (obtain ⟨x0, x1⟩ := hcl.out w' hS.1; clear hS hD; first | (go_simp; done) | (go_simp; with_reducible rfl)); go_simp)
    refine Hav3.rel (fun v => by rfl) (fun D v w' hD hS => ?_) ?_
    · have HS := hide hS.1
      clear hS hD
      go_simp
      go_at_call 48
      have hw := st_Wrap0 note a c w' (by rw [← HN.out]; exact HX.out.low HS.out) (by rw [← HN.out]; exact hle) hc (by rw [← HN.out]; omega) (by rw [← HN.out]; exact fun h0 j hj => Nat.lt_of_lt_of_le (HLT.out h0 j hj) HS.out.size)
      rw [← HN.out] at hw
      refine hw.mono ?_
      clear hw
      rintro e w'' ⟨a', c', rfl, hown, hb⟩
      rw [← HX2.out] at hown ⊢
      exact ⟨HS.out.trans (hb.mono HS.out.size), fun _ => ⟨a', c', rfl, ownsRow_base hown HS.out.size⟩⟩
    go_simp
    refine Hav3.fin (fun v w5 hS => ?_)
    obtain ⟨a', c', hv9, hown⟩ := hS.2 rfl
    have HS5 := hide hS.1
    have HOWN := hide hown
    rw [hv9]
    obtain ⟨xn, hxn⟩ : ∃ xn, xn = X.length := ⟨_, rfl⟩
    rw [← hxn]
    have HXN := hide hxn
    have hxl : xn ≤ 700 := by omega
    clear hS hv9 hown hxn
    go_wp2_with fail
    refine (fs_Append sb s F k hkm a' xn c' X w5 (H.out.low HS5.out) OK.out (by rw [HXN.out]; exact ownsRow_rd HOWN.out) HXN.out (by omega) (fun _ j hj hm => by have := (HOWN.out.lt j (by rw [← HXN.out]; exact hj)).1; have := H.out.lt j hm; omega)).mono ?_
    rintro e w6 ⟨rfl, ht⟩
    have HT := hide ht
    clear ht
    go_wp2
    go_ret
    obtain ⟨F', h1, h2⟩ := HT.out
    exact ⟨rfl, F', h1, (Chg.of_below HS5.out).trans h2⟩
end Go.Proofs.YtglgjakjhkdoaaaGreatDoor
