/-
  TapeDoes returns true for every input, and leaves its arguments as they were. No condition.
-/
import Derived.Test.YtglgjakjhkdoaaaGreatDoorZTaY
import Derived.Test.YtglgjakjhkdoaaaGreatDoorZTaGTaITaQ
import Derived.Test.YtglgjakjhkdoaaaGreatDoorZItemsLaw
import Derived.Test.YtglgjakjhkdoaaaGreatDoorCards
import Derived.Test.YtglgjakjhkdoaaaGreatDoorTie
import Derived.LaidMore
import Derived.Lay
import Derived.SevenTiedAt
import Derived.Stop.Joined
namespace Go.Proofs.YtglgjakjhkdoaaaGreatDoor
open Go.RowKit Go.ChangeShapes Go.WideShapes Go.ChangeAt Go.Deep
set_option linter.unusedVariables false
set_option linter.unusedSimpArgs false

set_option maxRecDepth 100000 in
theorem lifted_TapeDoes (os : Os) (started : os.Started) (H : Type) (enc : TypeId × Value → H) :
    ReturnsInHanded {} Tryz.checked os 3 .any (fun w args => (Rows.tapeDoesSpec.pre enc Tryz.prog Tryz.f3 Rows.tapeDoesRow.domain false w args ∧ laidMetH Tryz.prog Rows.tapeDoesRow.laid w) ∧ sizedMet enc Tryz.prog Tryz.f3 (OpenSpec.ofChange Rows.tapeDoesSpec) false w args)
      (Rows.tapeDoesSpec.post enc Tryz.prog Tryz.f3 false true false false) := by
  refine returnsInHanded_of_change_and (C := Tryz.checked) (X := fun w _ => laidMetH Tryz.prog Rows.tapeDoesRow.laid w) (fun _ _ _ hh h => h.of_heap hh) own started (by kernel_rfl) Tryz.func3
    (ChangeSpec.witness_shaped (enc := enc) (C := Tryz.checked) (os := os) (X := fun w _ => laidMetH Tryz.prog Rows.tapeDoesRow.laid w) false (World.laidAll Tryz.prog os Rows.tapeDoesRow.laid) #[.int .i64 0, .string ⟨#[]⟩, .slice none 0 0, .slice none 0 0] 8 (World.laidAll_os _ _ _)
      (World.shaped_of_ZipB (by kernel_rfl) (by kernel_rfl)) (by kernel_rfl) (by kernel_rfl) (by kernel_rfl)
      (by rw [MakeChecks.laidMetH_plain _ _ _ (by kernel_rfl)]; exact laidMet_laidAll _ (by kernel_rfl) (by kernel_rfl))) ?_
  intro W base args ds gs before hval0 hW hcnd _ hL _
  have hval : ∀ (j : Nat) t v, Tryz.f3.params[j]? = some t → args[j]? = some v → Value.okWide Tryz.prog W .any base t v := hval0
  have hW' := hW
  obtain ⟨p, q, hA0, hV, rfl, hfz, hnd⟩ := hW
  have hA : DataW.TrodAll enc Tryz.prog W 0 (fun _ => true) true Tryz.f3.params.toList args.toList ds p := hA0
  rw [Tryz.params3] at hA hval
  obtain ⟨v0, v1, v2, v3, d0, d1, d2, d3, p0, p1, p2, p3, rfl, rfl, rfl, h0, h1, ⟨f2, h2⟩, ⟨f3, h3⟩⟩ := trodAll_four hA
  obtain ⟨rfl, rfl⟩ := trodVars_none hV
  obtain ⟨n0, rfl, rfl, rfl, wt0⟩ := open_int Tryz.underlying3 (hval 0 3 v0 rfl rfl) h0
  obtain ⟨s1, rfl, hl1⟩ := open_strv Tryz.underlying9 (hval 1 9 v1 rfl rfl) h1
  obtain ⟨a2, c2, b2, e2, hx2, hc2, hd2⟩ := open_bytesC h2
  obtain ⟨a2', l2', c2', rfl⟩ := okWide_slice Tryz.underlying22 (hval 2 22 v2 rfl rfl)
  obtain ⟨rfl, rfl, rfl⟩ : a2' = a2 ∧ l2' = b2.length ∧ c2' = c2 := by simpa [Value.cells] using e2
  obtain ⟨x3, b3, e3, hx3⟩ := open_opts h3
  obtain ⟨a3, l3, c3, rfl⟩ := okWide_slice Tryz.underlying23 (hval 3 23 v3 rfl rfl)
  obtain rfl : x3 = .slice a3 l3 c3 := by simpa [Value.cells] using e3.symm
  refine (law_TapeDoes W n0 (wf_i64 wt0).1 (wf_i64 wt0).2 s1 hl1 _ _ b2 hx2 hc2 hd2 _ b3 hx3).mono fun e W' ⟨he, hb⟩ => ?_
  subst he
  exact ⟨_, rfl, law_post hW' hb rfl (by kernel_rfl) rfl (by kernel_rfl)⟩

theorem tapeDoes_holds : Rows.TapeDoesSaid :=
  OpenClaim.holds_of_wide 3 Tryz.f3 rfl rfl rfl rfl rfl rfl rfl ⟨rfl, rfl, rfl, rfl, rfl⟩ rfl rfl rfl rfl rfl (by kernel_rfl) Tryz.func3 (by kernel_rfl)
    (of_decide_eq_true (by kernel_rfl)) (by unfold Func.isWrapper; first | (rw [if_pos (by decide +kernel)]; kernel_rfl) | (rw [if_neg (by decide +kernel)]; exact ⟨rfl, rfl⟩))
    (fun os started H enc _ => lifted_TapeDoes os started H enc)
theorem tapeDoes_card : Rows.TapeDoesCardSaid :=
  Claim7.holds_tied_plain_at .later [] [.data, .pinned] true (true, "e0a7aea3da960d532d3ec521d199be32c75827e3a2f4caf66041d362f7c14ed0") false tapeDoes_holds (fun _ h => by cases h) (by kernel_rfl) (fun _ h => by cases h) tapeDoes_row_tie rfl ⟨rfl, rfl⟩ (by kernel_rfl) rfl
    (fun f fn hf hfn => by
      obtain rfl : f = 3 := Option.some.inj ((show Tryz.prog.funcNamed "drayman/draymanlaw10.TapeDoes" = some 3 by kernel_rfl).symm.trans hf) |>.symm
      obtain rfl : fn = Tryz.f3 := (Option.some.inj (Tryz.func3.symm.trans hfn)).symm
      exact ⟨by kernel_rfl, fun j t ht => by
        rw [Tryz.params3] at ht
        have hm : t ∈ [3, 9, 22, 23] := by simpa using Array.mem_of_getElem? ht
        have hall : ([3, 9, 22, 23].all fun u => !Tryz.prog.wantsStandIn u) = true := by kernel_rfl
        exact (show Tryz.prog.wantsStandIn t = false by simpa using List.all_eq_true.1 hall t hm)⟩)
    (by kernel_rfl)
#print axioms tapeDoes_card
end Go.Proofs.YtglgjakjhkdoaaaGreatDoor
