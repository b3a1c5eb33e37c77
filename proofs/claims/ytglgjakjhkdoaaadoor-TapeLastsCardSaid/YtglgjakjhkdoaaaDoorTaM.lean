/-
  What bytes begin with: notes, one behind the other. Plain.
-/
import Derived.Test.YtglgjakjhkdoaaaDoorStE
namespace Go.Proofs.YtglgjakjhkdoaaaDoor
open Go.RowKit
set_option linter.unusedVariables false
set_option linter.unusedSimpArgs false

theorem opened_lt {b x : List UInt8} (h : opened b = some x) : (nul b).length < b.length := by
  unfold opened at h
  split at h
  · cases h
  · rename_i hn
    rcases (nul_is b).2 with ⟨h1, _⟩ | ⟨r, h1, _⟩
    · exact absurd (.inr h1) hn
    · have := congrArg List.length h1
      simp at this
      omega
/-- the notes, and how many bytes they take -/
def tpRead (b : List UInt8) : List (List UInt8) × Nat :=
  match h : opened b with
  | none => ([], 0)
  | some x => if 600 < x.length then ([], 0) else (x :: (tpRead (b.drop ((nul b).length + 1))).1, (nul b).length + 1 + (tpRead (b.drop ((nul b).length + 1))).2)
termination_by b.length
decreasing_by all_goals (have := opened_lt h; rw [List.length_drop]; omega)
theorem tpRead_none {b : List UInt8} (h : opened b = none) : tpRead b = ([], 0) := by
  rw [tpRead]
  split
  · rfl
  · rename_i x hx; rw [h] at hx; cases hx
theorem tpRead_long {b x : List UInt8} (h : opened b = some x) (hl : 600 < x.length) : tpRead b = ([], 0) := by
  rw [tpRead]
  split
  · rfl
  · rename_i y hy
    rw [h] at hy
    simp only [Option.some.injEq] at hy
    subst hy
    rw [if_pos hl]
theorem tpRead_some {b x : List UInt8} (h : opened b = some x) (hl : x.length ≤ 600) : tpRead b = (x :: (tpRead (b.drop ((nul b).length + 1))).1, (nul b).length + 1 + (tpRead (b.drop ((nul b).length + 1))).2) := by
  rw [tpRead]
  split
  · rename_i hn
    rw [h] at hn; cases hn
  · rename_i y hy
    rw [h] at hy
    simp only [Option.some.injEq] at hy
    subst hy
    rw [if_neg (by omega)]
theorem tpRead_le : ∀ (n : Nat) (b : List UInt8), b.length ≤ n → (tpRead b).2 ≤ b.length ∧ (tpRead b).1.length ≤ b.length ∧ ∀ x ∈ (tpRead b).1, x.length ≤ 600
  | 0, b, hn => by
    have : b = [] := List.eq_nil_of_length_eq_zero (by omega)
    subst this
    rw [tpRead_none (by simp [opened, nul])]
    simp
  | n + 1, b, hn => by
    cases h : opened b with
    | none => rw [tpRead_none h]; simp
    | some x =>
      by_cases hl : x.length ≤ 600
      · have h1 := opened_lt h
        obtain ⟨g1, g2, g3⟩ := tpRead_le n (b.drop ((nul b).length + 1)) (by rw [List.length_drop]; omega)
        rw [List.length_drop] at g1 g2
        rw [tpRead_some h hl]
        refine ⟨by simp only; omega, by simp only [List.length_cons]; omega, fun y hy => ?_⟩
        rcases List.mem_cons.1 hy with rfl | hy
        · exact hl
        · exact g3 y hy
      · rw [tpRead_long h (by omega)]; simp
end Go.Proofs.YtglgjakjhkdoaaaDoor
