/-
  FsHalts returns true for every input, and leaves its arguments as they were. No condition.
-/
import Derived.Test.YtnlmoegdienhiaaFsRC
import Derived.Test.YtnlmoegdienhiaaLaw
namespace Go.Proofs.Ytnlmoegdienhiaa
open Go.RowKit Go.ChangeShapes Go.WideShapes Go.ChangeAt Go.Deep
set_option linter.unusedVariables false
set_option linter.unusedSimpArgs false

set_option maxRecDepth 100000 in
theorem lifted_FsHalts (os : Os) (started : os.Started) (H : Type) (enc : TypeId × Value → H) :
    ReturnsInHanded {} Try.checked os 7 .any (Rows.fsHaltsSpec.pre6 enc Try.prog Try.f7 Rows.fsHaltsRow.domain false) (Rows.fsHaltsSpec.post enc Try.prog Try.f7 false true false false) := by
  refine returnsInHanded_of_change (C := Try.checked) own started (by kernel_rfl) Try.func7
    (ChangeSpec.witness6 (enc := enc) (C := Try.checked) false ⟨#[], #[.slice none 0 0, .int .u8 0, .agg #[.slice none 0 0, .int .i64 0]], []⟩ 8 (by kernel_rfl) (by kernel_rfl) (by kernel_rfl) (by kernel_rfl)) ?_
  intro W base args ds gs before hval0 hW hcnd _
  have hval : ∀ (j : Nat) t v, Try.f7.params[j]? = some t → args[j]? = some v → Value.okWide Try.prog W .any base t v := hval0
  have hW' := hW
  obtain ⟨p, q, hA0, hV, rfl, hfz, hnd⟩ := hW
  have hA : DataW.TrodAll enc Try.prog W 0 (fun _ => true) true Try.f7.params.toList args.toList ds p := hA0
  rw [Try.params7] at hA hval
  obtain ⟨v0, v1, v2, d0, d1, d2, p0, p1, p2, rfl, rfl, rfl, ⟨f0, h0⟩, h1, h2⟩ := trodAll_three hA
  obtain ⟨rfl, rfl⟩ := trodVars_none hV
  obtain ⟨n1, rfl, rfl, rfl, wt1⟩ := open_int Try.underlying5 (hval 1 5 v1 rfl rfl) h1
  obtain ⟨x0, b0, e0, hx0⟩ := open_ops h0
  obtain ⟨a0, l0, c0, rfl⟩ := okWide_slice Try.underlying39 (hval 0 39 v0 rfl rfl)
  obtain rfl : x0 = .slice a0 l0 c0 := by simpa [Value.cells] using e0.symm
  obtain ⟨a2, m2, c2, K2, t2, rfl, hx2, hn2, lo2, hi2⟩ := open_loss (hval 2 25 v2 rfl rfl) h2
  obtain ⟨y1, rfl⟩ : ∃ y : UInt8, n1 = (y.toNat : Int) := ⟨UInt8.ofNat n1.toNat, by have := wf_u8 wt1; rw [UInt8.toNat_ofNat']; omega⟩
  refine (law_FsHalts W _ b0 hx0 y1 _ _ _ t2 K2 hx2 hn2 lo2 hi2).mono fun e W' ⟨he, hb⟩ => ?_
  subst he
  exact ⟨_, rfl, law_post hW' hb rfl (by kernel_rfl) rfl (by kernel_rfl)⟩

/-- THE STATEMENT -/
theorem fsHalts_holds : Rows.FsHaltsSaid :=
  OpenClaim.holds_of_wide 7 Try.f7 rfl rfl rfl rfl rfl rfl rfl ⟨rfl, rfl, rfl, rfl, rfl⟩ rfl rfl rfl rfl rfl (by kernel_rfl) Try.func7 (by kernel_rfl)
    (of_decide_eq_true (by kernel_rfl)) (by unfold Func.isWrapper; first | (rw [if_pos (by decide +kernel)]; kernel_rfl) | (rw [if_neg (by decide +kernel)]; exact ⟨rfl, rfl⟩))
    (fun os started H enc _ => lifted_FsHalts os started H enc)
#print axioms fsHalts_holds
end Go.Proofs.Ytnlmoegdienhiaa
