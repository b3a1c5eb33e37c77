/-
  Walks over package net: Take, Drop.
-/
import Derived.Test.YtipobpcafkhknaaNetE
namespace Go.Proofs.Ytipobpcafkhknaa
open Go.RowKit
set_option linter.unusedSimpArgs false
set_option linter.unusedVariables false

def zgram : Value := .agg #[.int .u8 0, .slice none 0 0, .bool false]
theorem zero_gram (w : World) : (zeroValue 52).run Try.prog w = .ok zgram w := by kernel_rfl

/-- one element's row is taken out -/
def Deleted (w : World) (ab n cap i : Nat) (xs : List Value) (e : Ending) (w' : World) : Prop :=
  e = .returned (.slice (some ⟨ab, 0, none⟩) (n - 1) cap) ∧ w'.ownsRow 0 52 3 (.slice (some ⟨ab, 0, none⟩) (n - 1) cap) (n - 1) (xs.take (i * 3) ++ xs.drop ((i + 1) * 3)) ∧ Chg [ab] [ab] w w'

theorem delete_close {w : World} {ab n cap i : Nat} {xs : List Value} {A : Array Value} (hn : xs.length = n * 3) (hi : i < n)
    (hh : w.heap[ab]? = some (.cells A 52 (0, 0))) (hnc : n ≤ cap) (hcm : cap ≤ maxLen) (hsz : A.size = cap * 3) (htake : A.toList.take (n * 3) = xs) :
    Deleted w ab n cap i xs (.returned (.slice (some ⟨ab, 0, none⟩) (n - 1) cap)) ((w.drew.setCells ab (i * 3) (xs.drop ((i + 1) * 3))).setCells ab ((n - 1) * 3) zgram.cells.toList) := by
  have hl1 : (xs.drop ((i + 1) * 3)).length = (n - 1 - i) * 3 := by rw [List.length_drop, hn]; omega
  have hAl : A.toList.length = cap * 3 := by simpa using hsz
  have e1 := setCells_heap (xs.drop ((i + 1) * 3)) (i * 3) w.drew A hh (by rw [hl1, hsz]; omega)
  have hll := laid_length A.toList (i * 3) (xs.drop ((i + 1) * 3)) (by rw [hl1, hAl]; omega)
  have e2 := setCells_heap zgram.cells.toList ((n - 1) * 3) _ _ e1 (by
    have : zgram.cells.toList.length = 3 := rfl
    rw [this]; simp only [List.size_toArray, hll, hAl]; omega)
  have hll2 := laid_length (laid A.toList (i * 3) (xs.drop ((i + 1) * 3))) ((n - 1) * 3) zgram.cells.toList (by
    have : zgram.cells.toList.length = 3 := rfl
    rw [this]; rw [hll, hAl]; omega)
  refine ⟨rfl, ⟨by rw [List.length_append, hl1, List.length_take, hn]; omega, .inr ⟨ab, cap, _, rfl, Nat.zero_le _, e2, by omega, hcm, by simpa [hll2, hll] using hsz, ?_⟩⟩, ?_⟩
  · simp only [List.toList_toArray]
    have : zgram.cells.toList.length = 3 := rfl
    rw [laid, List.append_assoc, List.take_append_of_le_length (by rw [List.length_take, hll, hAl]; omega), List.take_take, Nat.min_self]
    rw [laid, List.take_append_of_le_length (by rw [List.length_append, hl1, List.length_take, hAl]; omega), List.take_of_length_le (by rw [List.length_append, hl1, List.length_take, hAl]; omega)]
    have : A.toList.take (i * 3) = xs.take (i * 3) := by rw [← htake, List.take_take, Nat.min_eq_left (by omega)]
    rw [this]
  · exact Chg.undrew ((Chg.setCells (xs.drop ((i + 1) * 3)) (i * 3) w.drew).trans (Chg.setCells zgram.cells.toList ((n - 1) * 3) _))

set_option maxRecDepth 100000 in
set_option maxHeartbeats 800000 in
theorem net_delete (ab n cap i : Nat) (xs : List Value) (w : World) (hown : w.ownsRow 0 52 3 (.slice (some ⟨ab, 0, none⟩) n cap) n xs) (hi : i < n) (hn : n ≤ 4096) (h1 : ∀ u ∈ xs, u.oneCell' = true) :
    Calls Try.prog 22 #[.slice (some ⟨ab, 0, none⟩) n cap, .int .i64 i, .int .i64 (i + 1)] w (Deleted w ab n cap i xs) := by
  have hxl := hown.1
  obtain ⟨A, hh, hnc, hcm, hsz, htake⟩ : ∃ cur, w.heap[ab]? = some (.cells cur 52 (0, 0)) ∧ n ≤ cap ∧ cap ≤ maxLen ∧ cur.size = cap * 3 ∧ cur.toList.take (n * 3) = xs := by
    rcases hown.2 with ⟨h, _⟩ | ⟨g, c, cur, h, _, h2⟩
    · cases h
    · simp only [Value.slice.injEq, Option.some.injEq, Addr.mk.injEq, and_true, true_and] at h
      obtain ⟨rfl, rfl⟩ := h
      exact ⟨cur, h2⟩
  have hcl0 := delete_close (i := i) hxl hi hh hnc hcm hsz htake
  obtain ⟨news, hnews⟩ : ∃ news, news = xs.drop ((i + 1) * 3) := ⟨_, rfl⟩
  have hlen : news.length = (n - (i + 1)) * 3 := by rw [hnews, List.length_drop, hxl]; omega
  rw [← hnews] at hcl0
  obtain ⟨W1, hW1⟩ : ∃ W1, W1 = w.drew.setCells ab (i * 3) news := ⟨_, rfl⟩
  have e1 := setCells_heap news (i * 3) w.drew A hh (by rw [hlen, hsz]; omega)
  rw [← hW1] at hcl0 e1
  have hll := laid_length A.toList (i * 3) news (by rw [hlen]; simp; omega)
  have hcl : ∀ ty, (Builtin.clear_ #[48] ty #[.slice (some ⟨ab, (n - 1) * 3, none⟩) 1 (cap - (n - 1))]).run Try.prog W1 = .ok (.tuple #[]) (W1.setCells ab ((n - 1) * 3) [.int .u8 0, .slice none 0 0, .bool false]) := fun ty =>
    run_clear_one W1 _ _ ty zgram Try.underlying48 zero_gram (by decide) ab ((n - 1) * 3) _ _ e1 (by
      have : zgram.cells.size = 3 := rfl
      rw [this]; simp only [List.size_toArray, hll]; simp; omega)
  have hcl1 : Deleted w ab n cap i xs (.returned (.slice (some ⟨ab, 0, none⟩) (n - 1) cap)) (W1.setCells ab ((n - 1) * 3) [.int .u8 0, .slice none 0 0, .bool false]) := hcl0
  have hW := hide hW1; have HC := hide hcl1
  obtain ⟨AD, hA, hsrc⟩ : ∃ AD : Addr, (if cap = i + 1 then some (⟨ab, 0, none⟩ : Addr) else some ⟨ab, (i + 1) * 3, none⟩) = some AD ∧ Hid (∀ t u, news[t]? = some u → w.drew.cell? (AD.add t) = some u) := by
    by_cases h : cap = i + 1
    · refine ⟨⟨ab, 0, none⟩, by simp [h], fun t u hu => ?_⟩
      have h0 : news.length = 0 := by rw [hlen]; omega
      rw [List.length_eq_zero_iff.1 h0] at hu
      simp at hu
    · refine ⟨⟨ab, (i + 1) * 3, none⟩, by simp [h], fun t u hu => ?_⟩
      rw [Addr.add_lit, show w.drew.cell? ⟨ab, (i + 1) * 3 + t, none⟩ = w.cell? ⟨ab, (i + 1) * 3 + t, none⟩ from rfl]
      rw [hnews, List.getElem?_drop] at hu
      have hlt := (List.getElem?_eq_some_iff.1 hu).1
      rw [hown.cellAt _ (by omega)]
      exact hu
  obtain ⟨i0, hi0, hz0, hz1, hz2⟩ := info_parts info_gram
  have s2 : Hid (∀ u ∈ news, u.oneCell' = true) := fun u hu => h1 u (by rw [hnews] at hu; exact List.mem_of_mem_drop hu)
  have s1 : Hid (news.length = (n - (i + 1)) * 3) := hlen
  have s3 : Hid (∀ j, j < news.length → (w.drew.cell? ⟨ab, 0 + i * 3 + j, none⟩).isSome = true ∧ w.drew.frozen? ⟨ab, 0 + i * 3 + j, none⟩ = false) := fun j hj => by
    constructor
    · show (w.cell? _).isSome = true
      simp [World.cell?, hh, hsz]; omega
    · show w.frozen? _ = false
      simp [World.frozen?, hh]
  have hic : i ≤ cap := by omega
  have hi1 : i + 1 ≤ n := by omega
  have hi2 : (i : Int) + 1 ≤ n := by omega
  have hi3 : (0 : Int) ≤ (i : Int) + 1 := by omega
  have hi4 : ((i : Int) + 1).toNat = i + 1 := by omega
  have hne : ((i : Int) == (i : Int) + 1) = false := by simp; omega
  clear hcl0 hcl1 hW1 e1 hh htake hnews hlen hown hll hsz h1 hcm
  go_enter Try.func22, Try.ntmps22
  go_wp2_with fail
  go_region_law (refine step_append_room rfl (.tmp 22) (.tmp 25) 48 rfl 52 i0 3 Try.underlying48 hi0 hz1 ab 0 i cap (by simp [Act.eval, Act.put]) AD (n - (i + 1)) (cap - (i + 1)) news (by simp [Act.eval, Act.put, hA]) s1.out hsrc.out s2.out (by omega) s3.out ?_; rw [Nat.zero_add, ← hW.out])
  rw [show i + (n - (i + 1)) = n - 1 from by omega]
  have hone : n - (n - 1) = 1 := by omega
  have hcn : ¬ cap = n - 1 := by omega
  go_wp2
  go_ret
  exact HC.out

end Go.Proofs.Ytipobpcafkhknaa
