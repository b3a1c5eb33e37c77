/-
  The chapter's example of a journal.
-/
import Derived.Test.YtglgjakjhkdoaaaDoorTaF
namespace Go.Proofs.YtglgjakjhkdoaaaDoor
open Go.RowKit Go.Maps
set_option linter.unusedVariables false
set_option linter.unusedSimpArgs false

def kS0 : FsS := ⟨1000, [([106], [])], [], none, false⟩
def kS1 : FsS := ⟨1000, [([106], [])], [([106], [4, 1, 2, 3, 0])], none, false⟩
theorem tpRead_nil : tpRead [] = ([], 0) := tpRead_none (by simp [opened, nul])
theorem known_open : tpOpen (fsNew 1000) [106] = (0, kS0, []) := by
  have h1 : tpClear (fsNew 1000) [106] = fsNew 1000 := rfl
  have h2 : tpMade (fsNew 1000) [106] = (0, kS0) := rfl
  have h3 : tpGot kS0 [106] = [] := rfl
  have h4 : tpCut kS0 [106] = kS0 := by unfold tpCut; rw [h3, tpRead_nil]; rfl
  unfold tpOpen
  rw [if_neg (by decide), h1, h2, if_neg (by decide), h4, h3, tpRead_nil]
theorem known_append : tpAppend kS0 [106] [1, 2, 3] = (0, kS1) := by
  have h1 : wrapW [1, 2, 3] = [4, 1, 2, 3, 0] := by simp [wrapW, bodyW, splitZ, part_short]
  unfold tpAppend
  rw [h1, if_neg (by decide)]
  rfl
theorem known_got : kS1.has [106] = true ∧ kS1.get [106] = [4, 1, 2, 3, 0] := ⟨rfl, rfl⟩

set_option maxRecDepth 100000 in
set_option maxHeartbeats 1600000 in
theorem tp_known (W : World) : Calls Tryd.prog 8 #[] W fun e w' => e = .returned (.bool true) ∧ Below W.heap.size W w' := by
  have hk : ([106] : Bs).length ≤ maxLen := by decide
  go_enter Tryd.func8, Tryd.ntmps8
  go_wp2_with fail
  refine (fs_New' 1000 (by omega) (by omega) W W (Below.refl _ _)).mono ?_
  rintro e w1 ⟨sb, F0, rfl, hf0, _, _⟩
  have H0 := hide hf0
  clear hf0
  go_wp2_with fail
  refine (tp_Open sb _ F0 [106] hk w1 H0.out.rep H0.out.ok).mono ?_
  rintro e w2 ⟨F1, hr1, hc1, hcase⟩
  rw [known_open] at hr1 hcase
  rcases hcase with ⟨h1, _⟩ | ⟨_, tb, a, cc, xs, rfl, hblk, htb, htn, hat, hxs, hfar⟩
  · exact absurd rfl h1
  have hx0 : xs = [] := by simpa using hxs
  subst hx0
  obtain ⟨G1, hG1, hC1⟩ := H0.out.step (s' := kS0) ⟨F1, hr1, hc1⟩ (by have := tpOpen_ok H0.out.ok [106]; rw [known_open] at this; exact this)
  have hlow2 : Below W.heap.size W w2 := hG1.low
  have HR1 := hide hr1; have HBLK := hide hblk; have HTN := hide htn
  have HL2 := hide hlow2
  have hok0 : kS0.Ok := hG1.ok
  have HOK0 := hide hok0
  have htbW : W.heap.size ≤ tb := Nat.le_trans H0.out.low.size htb
  have HUP : Hid (∀ k ∈ F1, W.heap.size ≤ k) := hide fun k hk => by
    rcases hc1.fresh k hk with h | h
    · exact H0.out.up k h
    · exact Nat.le_trans H0.out.low.size h
  clear hr1 hc1 hblk htn hat hxs hfar hG1 hC1 hlow2 hok0 H0 htb
  have hb2 := hide (below_alloc w2 (.cells #[.int .u8 1, .int .u8 2, .int .u8 3] 5))
  have hr2 := hide (rdB_lit w2 [1, 2, 3] 3 #[.int .u8 1, .int .u8 2, .int .u8 3] rfl rfl (by decide))
  go_wp2_with fail
  refine (tp_Append tb sb kS0 F1 [106] (by decide) _ 3 3 [1, 2, 3] _ (HBLK.out.low hb2.out) (HR1.out.low hb2.out) HOK0.out hr2.out rfl (by decide) (by decide) (fun _ j hj => by simp [Value.ownBlock] at hj; subst hj; simp)).mono ?_
  rintro e w3 ⟨rfl, ht⟩
  rw [known_append] at ht ⊢
  obtain ⟨F2, hr3, hc3⟩ := ht
  have hlow3 : Hid (Below W.heap.size W w3) := hide ((HL2.out.trans (hb2.out.mono HL2.out.size)).trans (hc3.below (Nat.le_trans HL2.out.size hb2.out.size) HUP.out))
  have hok1 : Hid (kS1.Ok) := hide (by have := tpAppend_ok HOK0.out [106] [1, 2, 3]; rw [known_append] at this; exact this)
  have HR3 := hide hr3
  clear hr3 hc3 hr2 hb2
  go_wp2_with fail
  refine (fs_Read sb kS1 F2 [106] hk w3 HR3.out hok1.out).mono ?_
  rintro e w4 hr
  unfold ReadTold at hr
  rw [known_got.1, if_pos rfl, known_got.2] at hr
  obtain ⟨ra, rn, rc, rfl, hfr⟩ := hr
  obtain rfl : rn = 5 := hfr.2.1
  have v1 := convert_rd _ _ _ hfr.rd
  have v2 := convert_rd _ _ _ (rdB_lit w4 [4, 1, 2, 3, 0] 5 #[.int .u8 4, .int .u8 1, .int .u8 2, .int .u8 3, .int .u8 0] rfl rfl (by decide))
  have v3 := convert_rd _ _ _ (hfr.rd.low (below_alloc w4 (.cells #[.int .u8 4, .int .u8 1, .int .u8 2, .int .u8 3, .int .u8 0] 5)))
  have HB4 := hide ((hlow3.out.trans (hfr.2.2.mono hlow3.out.size)).trans ((below_alloc w4 (.cells #[.int .u8 4, .int .u8 1, .int .u8 2, .int .u8 3, .int .u8 0] 5)).mono (Nat.le_trans hlow3.out.size hfr.2.2.size)))
  clear hfr
  go_wp2
  go_ret
  exact ⟨rfl, HB4.out⟩
end Go.Proofs.YtglgjakjhkdoaaaDoor
