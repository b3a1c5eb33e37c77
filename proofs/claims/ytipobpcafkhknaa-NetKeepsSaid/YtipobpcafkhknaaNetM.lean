/-
  The law's list of calls, opened.
-/
import Derived.Test.YtipobpcafkhknaaNetL
import Derived.Test.YtipobpcafkhknaaLaw
namespace Go.Proofs.Ytipobpcafkhknaa
open Go.RowKit Go.ChangeShapes Go.WideShapes Go.ChangeAt Go.Deep
set_option linter.unusedSimpArgs false
set_option linter.unusedVariables false

theorem items_of {P : Item → Prop} : ∀ (L : List (List Value)), (∀ c ∈ L, ∃ t : Item, t.cells = c ∧ P t) → ∃ M : List Item, M.map Item.cells = L ∧ ∀ t ∈ M, P t
  | [], _ => ⟨[], rfl, fun t h => by cases h⟩
  | c :: L, h => by
    obtain ⟨t, ht, hp⟩ := h c (by simp)
    obtain ⟨M, hM, hM'⟩ := items_of L fun c hc => h c (by simp [hc])
    refine ⟨t :: M, by simp [ht, hM], fun s hs => ?_⟩
    rcases List.mem_cons.1 hs with rfl | hs
    · exact hp
    · exact hM' s hs

def OpRow (W : World) (c : List Value) : Prop := ∃ t : Item, t.cells = c ∧ IsOp t ∧ Rd W t.x 1 t.b.length (bcells t.b) ∧ t.b.length ≤ maxLen

theorem open_ops {H : Type} {enc : TypeId × Value → H} {W : World} {fuel : Nat} {cs : List Value} {x : DataW H × List MemPlace} (h : DataW.trod enc Try.prog W 0 (fun _ => true) true fuel 23 cs = some x) :
    ∃ (v : Value) (L : List Item), cs = [v] ∧ RdItems W 6 v L ∧ (∀ t ∈ L, IsOp t) ∧ (∀ t ∈ L, t.b.length ≤ 9223372036854775807) ∧ L.length ≤ 9223372036854775807 := by
  obtain ⟨v, L, rfl, hr, hc, hl⟩ := open_structs Try.underlying23 Try.underlying31 (by kernel_rfl) (by kernel_rfl) h (OpRow W) (fun vs hvl hf => by
    match vs, hvl with
    | [v0, v1, v2, v3, v4, v5], _ =>
      obtain ⟨_, _, _, e0, t0⟩ := hf 0 _ rfl
      obtain ⟨_, _, _, e1, t1⟩ := hf 1 _ rfl
      obtain ⟨_, _, _, e2, t2⟩ := hf 2 _ rfl
      obtain ⟨_, _, _, e3, t3⟩ := hf 3 _ rfl
      obtain ⟨_, _, _, e4, t4⟩ := hf 4 _ rfl
      obtain ⟨_, _, _, e5, t5⟩ := hf 5 _ rfl
      obtain ⟨z0, q0, _, w0⟩ := DataW.trod_int Try.underlying5 t0
      obtain ⟨z1, q1, _, w1⟩ := DataW.trod_int Try.underlying5 t1
      obtain ⟨x, b, q2, hrd, hbl⟩ := open_bytes t2
      obtain ⟨z3, q3, _, w3⟩ := DataW.trod_int Try.underlying3 t3
      obtain ⟨z4, q4, _, w4⟩ := DataW.trod_int Try.underlying3 t4
      obtain ⟨z5, q5, _, w5⟩ := DataW.trod_int Try.underlying5 t5
      simp at e0 e1 e2 e3 e4 e5 q0 q1 q2 q3 q4 q5
      subst e0; subst e1; subst e2; subst e3; subst e4; subst e5; subst q0; subst q1; subst q2; subst q3; subst q4; subst q5
      have b0 := wf_u8 w0; have b1 := wf_u8 w1; have b3 := wf_i64 w3; have b4 := wf_i64 w4; have b5 := wf_u8 w5
      exact ⟨⟨opPre z0 z1, _, opPost z3 z4 z5, b⟩, rfl, ⟨z0, z1, z3, z4, z5, rfl, rfl, b0.1, b0.2, b1.1, b1.2, b3.1, b3.2, b4.1, b4.2, b5.1, b5.2⟩, hrd, hbl⟩)
  obtain ⟨M, rfl, hM⟩ := items_of (P := fun t => IsOp t ∧ Rd W t.x 1 t.b.length (bcells t.b) ∧ t.b.length ≤ maxLen) L fun c hc' => (hc c hc').2
  refine ⟨v, M, rfl, ⟨?_, fun t ht => ⟨(hc _ (List.mem_map.2 ⟨t, ht, rfl⟩)).1, (hM t ht).2.1⟩⟩, fun t ht => (hM t ht).1, fun t ht => ?_, ?_⟩
  · rw [List.flatMap_def]
    simpa using hr
  · have := (hM t ht).2.2
    unfold maxLen at this; omega
  · unfold maxLen at hl; simpa using hl
end Go.Proofs.Ytipobpcafkhknaa
