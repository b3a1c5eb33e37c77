/-
  NetTwice returns true for every input, and leaves its arguments as they were. No condition.
-/
import Derived.Test.YtipobpcafkhknaaNetM
namespace Go.Proofs.Ytipobpcafkhknaa
open Go.RowKit Go.ChangeShapes Go.WideShapes Go.ChangeAt Go.Deep
set_option linter.unusedVariables false

theorem law_twice (xb : Value) (b : List UInt8) (to : Int) (v : Value) (L : List Item) (w : World) (hx : Rd w xb 1 b.length (bcells b)) (hbl : b.length ≤ 9223372036854775807) (hto : 0 ≤ to) (hto2 : to ≤ 255) (hL : RdItems w 6 v L) (hop : ∀ t ∈ L, IsOp t) (hl : L.length ≤ 9223372036854775807) (hlb : ∀ t ∈ L, t.b.length ≤ 9223372036854775807) :
    Calls Try.prog 3 #[xb, .int .u8 to, v] w fun e w' => e = .returned (.bool true) ∧ Below w.heap.size w w' := by
  by_cases h : heavyB L = true ∨ b.length < 1 ∨ 4096 < b.length
  · exact law_twice_known xb b to v L w hx hbl hL hop hl hlb h
  · have hh : heavyB L = false := by
      cases e : heavyB L with
      | false => rfl
      | true => exact absurd (.inl e) h
    exact law_twice_goes xb b to v L w hx hto hto2 hL hop hl hlb hh (by omega) (by omega)

set_option maxRecDepth 100000 in
theorem twice_lifted (os : Os) (started : os.Started) (H : Type) (enc : TypeId × Value → H) :
    ReturnsInHanded {} Try.checked os 3 .any (Rows.netTwiceSpec.pre6 enc Try.prog Try.f3 Rows.netTwiceRow.domain false) (Rows.netTwiceSpec.post enc Try.prog Try.f3 false true false false) := by
  refine returnsInHanded_of_change (C := Try.checked) own started (by kernel_rfl) Try.func3
    (ChangeSpec.witness6 (enc := enc) (C := Try.checked) false ⟨#[], #[.slice none 0 0, .int .u8 0, .slice none 0 0], []⟩ 8 (by kernel_rfl) (by kernel_rfl) (by kernel_rfl) (by kernel_rfl)) ?_
  intro W base args ds gs before hval0 hW hcnd _
  have hval : ∀ (j : Nat) t v, Try.f3.params[j]? = some t → args[j]? = some v → Value.okWide Try.prog W .any base t v := hval0
  have hW' := hW
  obtain ⟨p, q, hA0, hV, rfl, hfz, hnd⟩ := hW
  have hA : DataW.TrodAll enc Try.prog W 0 (fun _ => true) true Try.f3.params.toList args.toList ds p := hA0
  rw [Try.params3] at hA hval
  obtain ⟨v0, v1, v2, d0, d1, d2, p0, p1, p2, rfl, rfl, rfl, ⟨f0, h0⟩, h1, ⟨f2, h2⟩⟩ := trodAll_three hA
  obtain ⟨rfl, rfl⟩ := trodVars_none hV
  obtain ⟨to, rfl, rfl, rfl, wt⟩ := open_int Try.underlying5 (hval 1 5 v1 rfl rfl) h1
  obtain ⟨xb, b, e0, hx, hbl⟩ := open_bytes h0
  obtain ⟨v, L, e2, hL, hop, hlb, hl⟩ := open_ops h2
  obtain ⟨a0, l0, c0, rfl⟩ := okWide_slice Try.underlying22 (hval 0 22 v0 rfl rfl)
  obtain ⟨a2, l2, c2, rfl⟩ := okWide_slice Try.underlying23 (hval 2 23 v2 rfl rfl)
  obtain rfl : xb = .slice a0 l0 c0 := by simpa [Value.cells] using e0.symm
  obtain rfl : v = .slice a2 l2 c2 := by simpa [Value.cells] using e2.symm
  have b1 := wf_u8 wt
  unfold maxLen at hbl
  refine (law_twice _ b to _ L W hx (by omega) b1.1 b1.2 hL hop hl hlb).mono fun e W' ⟨he, hb⟩ => ?_
  subst he
  exact ⟨_, rfl, law_post hW' hb rfl (by kernel_rfl) rfl (by kernel_rfl)⟩

/-- THE STATEMENT -/
theorem netTwice_holds : Rows.NetTwiceSaid :=
  OpenClaim.holds_of_wide 3 Try.f3 rfl rfl rfl rfl rfl rfl rfl ⟨rfl, rfl, rfl, rfl, rfl⟩ rfl rfl rfl rfl rfl (by kernel_rfl) Try.func3 (by kernel_rfl)
    (of_decide_eq_true (by kernel_rfl)) (by unfold Func.isWrapper; first | (rw [if_pos (by decide +kernel)]; kernel_rfl) | (rw [if_neg (by decide +kernel)]; exact ⟨rfl, rfl⟩))
    (fun os started H enc _ => twice_lifted os started H enc)
#print axioms netTwice_holds
end Go.Proofs.Ytipobpcafkhknaa
