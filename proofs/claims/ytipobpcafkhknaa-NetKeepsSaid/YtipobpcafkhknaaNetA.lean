/-
  Walks over package net: the small functions.
-/
import Derived.Test.YtipobpcafkhknaaBase
namespace Go.Proofs.Ytipobpcafkhknaa
open Go.RowKit
set_option linter.unusedSimpArgs false
set_option linter.unusedVariables false

theorem info_u8 : (Try.prog.info? 5).map (fun i => (i.zero, i.size, i.bytes)) = some (some (.int .u8 0), 1, 1) := by kernel_rfl

set_option maxHeartbeats 400000 in
theorem net_new (w : World) : Calls Try.prog 9 #[] w fun e w' =>
    e = .returned (.pointer (some ⟨w.heap.size, 0, none⟩)) ∧ w' = w.alloc (.cells #[.slice none 0 0] 50) := by
  go_enter Try.func9, Try.ntmps9
  go_wp2
  go_ret
  exact ⟨rfl, rfl⟩

set_option maxHeartbeats 400000 in
theorem net_at (nb b o len cap : Nat) (i : Int) (w : World) (hl : len ≤ 4096)
   (hc : w.cell? ⟨nb, 0, none⟩ = some (.slice (some ⟨b, o, none⟩) len cap)) (hi : 0 ≤ i) (hi' : i < len) :
   Calls Try.prog 21 #[.pointer (some ⟨nb, 0, none⟩), .int .i64 i] w fun e w' =>
    e = .returned (.pointer (some ⟨b, o + i.toNat * 3, none⟩)) ∧ w = w' := by
  obtain ⟨i, rfl⟩ := Int.eq_ofNat_of_zero_le hi
  go_enter Try.func21, Try.ntmps21
  go_wp2
  all_goals go_ret
  all_goals exact ⟨by simp, rfl⟩

set_option maxHeartbeats 400000 in
theorem net_at_none (nb len cap : Nat) (a : Option Addr) (i : Int) (w : World) (hl : len ≤ 4096)
   (hc : w.cell? ⟨nb, 0, none⟩ = some (.slice a len cap)) (hi : i < 0 ∨ len ≤ i) :
   Calls Try.prog 21 #[.pointer (some ⟨nb, 0, none⟩), .int .i64 i] w fun e w' =>
    e = .returned (.pointer none) ∧ w = w' := by
  by_cases h0 : i < 0
  all_goals
    go_enter Try.func21, Try.ntmps21
    go_wp2
  all_goals go_ret
  all_goals exact ⟨rfl, rfl⟩

set_option maxHeartbeats 400000 in
theorem bytes_clone_nil (w : World) : Calls Try.prog 30 #[.slice none 0 0] w fun e w' =>
    e = .returned (.slice none 0 0) ∧ w = w' := by
  have hn := fun (w : World) => Lib.run_eql_slice_nil (P := Try.prog) w 22 5 none 0 0 0 0 Try.underlying22
  go_enter Try.func30, Try.ntmps30
  go_wp2
  go_ret
  exact ⟨rfl, rfl⟩

set_option maxHeartbeats 400000 in
theorem bytes_clone_some (ad : Addr) (m c : Nat) (xs : List Value) (w : World) (hx : Rd w (.slice (some ad) m c) 1 m xs) (h1 : ∀ u ∈ xs, u.oneCell' = true) (hm : m ≤ 70368744177664) :
    Calls Try.prog 30 #[.slice (some ad) m c] w (RetOwn w 5 1 m xs) := by
  have hn := fun (w : World) => Lib.run_eql_slice_nil (P := Try.prog) w 22 5 (some ad) m c 0 0 Try.underlying22
  obtain ⟨i0, hi, hz0, hz1, hz2⟩ := info_parts info_u8
  have hx' : Rd (w.alloc (.cells #[] 5)) (.slice (some ad) m c) 1 m xs := hx.alloc _
  go_enter Try.func30, Try.ntmps30
  go_wp2_with (at_builtin; refine wpList_append_rd rfl (.tmp 5) (.tmp 6) 22 rfl w.heap.size 5 i0 (.int .u8 0) 1 1 Try.underlying22 hi hz0 hz1 hz2 rfl (by decide) _ _ _ rfl (World.ownsRow_made w #[] 0 (Nat.le_refl _) (by decide) rfl) _ m xs rfl hx' h1 (by unfold maxLen; omega) (by omega) (by simp) ?_)
  intro v' w1 hown hgrow hnil _
  have hb : Below w.heap.size w w1 := ((Below.refl _ _).alloc (Nat.le_refl _) _).grown hgrow (by simp) (by simp [Value.ownBlock])
  go_wp2
  go_ret
  obtain ⟨g, cap, rfl, hg⟩ := ownsRow_some hown (by simpa using hnil)
  exact ⟨g, cap, by simp, hg, by simpa using hown, hb⟩

end Go.Proofs.Ytipobpcafkhknaa
