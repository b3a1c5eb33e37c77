/-
  TapeLasts returns true for every input, and leaves its arguments as they were. No condition.
-/
import Derived.Test.YtglgjakjhkdoaaaDoorTaS
import Derived.Test.YtglgjakjhkdoaaaDoorLaw
import Derived.Test.YtglgjakjhkdoaaaDoorCards
import Derived.Test.YtglgjakjhkdoaaaDoorTie
import Derived.LaidMore
import Derived.Lay
import Derived.SevenTiedAt
import Derived.Stop.Joined
namespace Go.Proofs.YtglgjakjhkdoaaaDoor
open Go.RowKit Go.ChangeShapes Go.WideShapes Go.ChangeAt Go.Deep
set_option linter.unusedVariables false
set_option linter.unusedSimpArgs false

set_option maxRecDepth 100000 in
theorem lifted_TapeLasts (os : Os) (started : os.Started) (H : Type) (enc : TypeId × Value → H) :
    ReturnsInHanded {} Tryd.checked os 6 .any (fun w args => (Rows.tapeLastsSpec.pre enc Tryd.prog Tryd.f6 Rows.tapeLastsRow.domain false w args ∧ laidMetH Tryd.prog Rows.tapeLastsRow.laid w) ∧ sizedMet enc Tryd.prog Tryd.f6 (OpenSpec.ofChange Rows.tapeLastsSpec) false w args)
      (Rows.tapeLastsSpec.post enc Tryd.prog Tryd.f6 false true false false) := by
  refine returnsInHanded_of_change_and (C := Tryd.checked) (X := fun w _ => laidMetH Tryd.prog Rows.tapeLastsRow.laid w) (fun _ _ _ hh h => h.of_heap hh) own started (by kernel_rfl) Tryd.func6
    (ChangeSpec.witness_shaped (enc := enc) (C := Tryd.checked) (os := os) (X := fun w _ => laidMetH Tryd.prog Rows.tapeLastsRow.laid w) false (World.laidAll Tryd.prog os Rows.tapeLastsRow.laid) #[.slice none 0 0, .int .u8 0, .agg #[.slice none 0 0, .int .i64 0], .int .u8 0, .agg #[.slice none 0 0, .int .i64 0]] 8 (World.laidAll_os _ _ _)
      (World.shaped_of_ZipB (by kernel_rfl) (by kernel_rfl)) (by kernel_rfl) (by kernel_rfl) (by kernel_rfl)
      (by rw [MakeChecks.laidMetH_plain _ _ _ (by kernel_rfl)]; exact laidMet_laidAll _ (by kernel_rfl) (by kernel_rfl))) ?_
  intro W base args ds gs before hval0 hW hcnd _ hL _
  have hval : ∀ (j : Nat) t v, Tryd.f6.params[j]? = some t → args[j]? = some v → Value.okWide Tryd.prog W .any base t v := hval0
  have hW' := hW
  obtain ⟨p, q, hA0, hV, rfl, hfz, hnd⟩ := hW
  have hA : DataW.TrodAll enc Tryd.prog W 0 (fun _ => true) true Tryd.f6.params.toList args.toList ds p := hA0
  rw [Tryd.params6] at hA hval
  obtain ⟨v0, v1, v2, v3, v4, d0, d1, d2, d3, d4, p0, p1, p2, p3, p4, rfl, rfl, rfl, ⟨f0, h0⟩, h1, h2, h3, h4⟩ := trodAll_five hA
  obtain ⟨rfl, rfl⟩ := trodVars_none hV
  obtain ⟨n1, rfl, rfl, rfl, wt1⟩ := open_int Tryd.underlying5 (hval 1 5 v1 rfl rfl) h1
  obtain ⟨n3, rfl, rfl, rfl, wt3⟩ := open_int Tryd.underlying5 (hval 3 5 v3 rfl rfl) h3
  obtain ⟨x0, b0, e0, hx0⟩ := open_opts h0
  obtain ⟨a0, l0, c0, rfl⟩ := okWide_slice Tryd.underlying30 (hval 0 30 v0 rfl rfl)
  obtain rfl : x0 = .slice a0 l0 c0 := by simpa [Value.cells] using e0.symm
  obtain ⟨a2, m2, c2, K2, t2, rfl, hx2, hn2, lo2, hi2⟩ := open_loss (hval 2 27 v2 rfl rfl) h2
  obtain ⟨a4, m4, c4, K4, t4, rfl, hx4, hn4, lo4, hi4⟩ := open_loss (hval 4 27 v4 rfl rfl) h4
  obtain ⟨y1, rfl⟩ : ∃ y : UInt8, n1 = (y.toNat : Int) := ⟨UInt8.ofNat n1.toNat, by have := wf_u8 wt1; rw [UInt8.toNat_ofNat']; omega⟩
  obtain ⟨y3, rfl⟩ : ∃ y : UInt8, n3 = (y.toNat : Int) := ⟨UInt8.ofNat n3.toNat, by have := wf_u8 wt3; rw [UInt8.toNat_ofNat']; omega⟩
  refine (law_TapeLasts W _ b0 hx0 y1 _ _ _ t2 K2 hx2 hn2 lo2 hi2 y3 _ _ _ t4 K4 hx4 hn4 lo4 hi4).mono fun e W' ⟨he, hb⟩ => ?_
  subst he
  exact ⟨_, rfl, law_post hW' hb rfl (by kernel_rfl) rfl (by kernel_rfl)⟩

/-- THE STATEMENT -/
theorem tapeLasts_holds : Rows.TapeLastsSaid :=
  OpenClaim.holds_of_wide 6 Tryd.f6 rfl rfl rfl rfl rfl rfl rfl ⟨rfl, rfl, rfl, rfl, rfl⟩ rfl rfl rfl rfl rfl (by kernel_rfl) Tryd.func6 (by kernel_rfl)
    (of_decide_eq_true (by kernel_rfl)) (by unfold Func.isWrapper; first | (rw [if_pos (by decide +kernel)]; kernel_rfl) | (rw [if_neg (by decide +kernel)]; exact ⟨rfl, rfl⟩))
    (fun os started H enc _ => lifted_TapeLasts os started H enc)
theorem tapeLasts_card : Rows.TapeLastsCardSaid :=
  Claim7.holds_tied_plain_at .later [] [.data, .pinned] true (true, "332ce30bed6823104f62b1026a48f42505b7316989ea670a130c2953d20ff6c5") false tapeLasts_holds (fun _ h => by cases h) (by kernel_rfl) (fun _ h => by cases h) tapeLasts_row_tie rfl ⟨rfl, rfl⟩ (by kernel_rfl) rfl
    (fun f fn hf hfn => by
      obtain rfl : f = 6 := Option.some.inj ((show Tryd.prog.funcNamed "drayman/draymanlaw10.TapeLasts" = some 6 by kernel_rfl).symm.trans hf) |>.symm
      obtain rfl : fn = Tryd.f6 := (Option.some.inj (Tryd.func6.symm.trans hfn)).symm
      exact ⟨by kernel_rfl, fun j t ht => by
        rw [Tryd.params6] at ht
        have hm : t ∈ [30, 5, 27, 5, 27] := by simpa using Array.mem_of_getElem? ht
        have hall : ([30, 5, 27, 5, 27].all fun u => !Tryd.prog.wantsStandIn u) = true := by kernel_rfl
        exact (show Tryd.prog.wantsStandIn t = false by simpa using List.all_eq_true.1 hall t hm)⟩)
    (by kernel_rfl)
#print axioms tapeLasts_card
end Go.Proofs.YtglgjakjhkdoaaaDoor
