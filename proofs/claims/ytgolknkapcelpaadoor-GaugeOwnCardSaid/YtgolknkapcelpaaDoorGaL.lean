/-
  The names that a gauge counts: strings.Fields of one text, as the kit's contract has it, laid at this program.
-/
import Derived.Test.YtgolknkapcelpaaDoorFsM
import Derived.Test.YtgolknkapcelpaaDoorOwn
import Derived.Shelf.Strings.Fields
import Derived.Ground.NamesProg
namespace Go.Proofs.YtgolknkapcelpaaDoor
open Go.RowKit Go.Maps
set_option linter.unusedVariables false
set_option linter.unusedSimpArgs false

def fieldsL_ren : Go.Shelf.Ren := ⟨fun | 157 => 19 | 229 => 24 | 199 => 25 | 261 => 30 | 311 => 33 | 312 => 34 | n => n, fun | 9 => 9 | 31 => 22 | 3 => 3 | 5 => 5 | 4 => 4 | 119 => 67 | 0 => 0 | 40 => 69 | 152 => 74 | 21 => 21 | 154 => 76 | 51 => 43 | 141 => 78 | 196 => 83 | 193 => 80 | 198 => 86 | 49 => 84 | 194 => 81 | 201 => 89 | 226 => 95 | 46 => 96 | 227 => 97 | n => n, fun | 0 => 0 | 6 => 1 | n => n⟩
theorem fieldsL : Go.Proofs.Lays.n157 Tryd.prog fieldsL_ren := {
  mixed := by kernel_rfl
  f157 := Tryd.func19.trans (congrArg some (by kernel_rfl))
  f199 := Tryd.func25.trans (congrArg some (by kernel_rfl))
  f229 := Tryd.func24.trans (congrArg some (by kernel_rfl))
  f261 := Tryd.func30.trans (congrArg some (by kernel_rfl))
  f311 := Tryd.func33.trans (congrArg some (by kernel_rfl))
  f312 := Tryd.func34.trans (congrArg some (by kernel_rfl))
  t0 := Tryd.underlying0
  a0 := Tryd.isAgg0
  z0 := Tryd.sizeOf0
  v0 := Tryd.zeroValue0
  t3 := Tryd.underlying3
  a3 := Tryd.isAgg3
  z3 := Tryd.sizeOf3
  v3 := Tryd.zeroValue3
  t4 := Tryd.underlying4
  a4 := Tryd.isAgg4
  z4 := Tryd.sizeOf4
  v4 := Tryd.zeroValue4
  t5 := Tryd.underlying5
  a5 := Tryd.isAgg5
  z5 := Tryd.sizeOf5
  v5 := Tryd.zeroValue5
  t9 := Tryd.underlying9
  a9 := Tryd.isAgg9
  z9 := Tryd.sizeOf9
  v9 := Tryd.zeroValue9
  t21 := Tryd.underlying21
  a21 := Tryd.isAgg21
  z21 := Tryd.sizeOf21
  v21 := Tryd.zeroValue21
  t31 := Tryd.underlying22
  a31 := Tryd.isAgg22
  z31 := Tryd.sizeOf22
  v31 := Tryd.zeroValue22
  t40 := Tryd.underlying69
  a40 := Tryd.isAgg69
  z40 := Tryd.sizeOf69
  v40 := Tryd.zeroValue69
  t46 := Tryd.underlying96
  a46 := Tryd.isAgg96
  z46 := Tryd.sizeOf96
  v46 := Tryd.zeroValue96
  t49 := Tryd.underlying84
  a49 := Tryd.isAgg84
  z49 := Tryd.sizeOf84
  v49 := Tryd.zeroValue84
  t51 := Tryd.underlying43
  a51 := Tryd.isAgg43
  z51 := Tryd.sizeOf43
  v51 := Tryd.zeroValue43
  t119 := Tryd.underlying67
  a119 := Tryd.isAgg67
  z119 := Tryd.sizeOf67
  t141 := Tryd.underlying78
  a141 := Tryd.isAgg78
  z141 := Tryd.sizeOf78
  v141 := Tryd.zeroValue78
  t152 := Tryd.underlying74
  a152 := Tryd.isAgg74
  z152 := Tryd.sizeOf74
  v152 := Tryd.zeroValue74
  t154 := Tryd.underlying76
  a154 := Tryd.isAgg76
  z154 := Tryd.sizeOf76
  v154 := Tryd.zeroValue76
  t193 := Tryd.underlying80
  a193 := Tryd.isAgg80
  z193 := Tryd.sizeOf80
  v193 := Tryd.zeroValue80
  t194 := Tryd.underlying81
  a194 := Tryd.isAgg81
  z194 := Tryd.sizeOf81
  v194 := Tryd.zeroValue81
  t196 := Tryd.underlying83
  a196 := Tryd.isAgg83
  z196 := Tryd.sizeOf83
  v196 := Tryd.zeroValue83
  t198 := Tryd.underlying86
  a198 := Tryd.isAgg86
  z198 := Tryd.sizeOf86
  v198 := Tryd.zeroValue86
  t201 := Tryd.underlying89
  a201 := Tryd.isAgg89
  z201 := Tryd.sizeOf89
  v201 := Tryd.zeroValue89
  t226 := Tryd.underlying95
  a226 := Tryd.isAgg95
  z226 := Tryd.sizeOf95
  v226 := Tryd.zeroValue95
  t227 := Tryd.underlying97
  a227 := Tryd.isAgg97
  z227 := Tryd.sizeOf97
  v227 := Tryd.zeroValue97
  g0 := by kernel_rfl
  g6 := by kernel_rfl }


/-- the library's table of spaces -/
def Tab (w : World) : Prop := ∀ c : Nat, c < 256 → w.cell? ⟨0, c, none⟩ = some (.int .u8 (if Lib.isSp (UInt8.ofNat c) then 1 else 0))
theorem Tab.low {w w' : World} (h : Tab w) (hb : Below w.heap.size w w') : Tab w' := fun c hc =>
  (hb.cell (p := ⟨0, c, none⟩) (World.block_lt_of_cell? _ _ (h c hc))).trans (h c hc)
theorem Tab.lt {w : World} (h : Tab w) : 0 < w.heap.size := World.block_lt_of_cell? _ _ (h 0 (by omega))
theorem Tab.chg {w w' : World} {F F' : List Nat} (h : Tab w) (hc : Chg F F' w w') (hF : 0 ∉ F) : Tab w' := fun c hcc =>
  ((hc.cellAt c h.lt hF).1).trans (h c hcc)

def gaNames : List Bs := [[97, 112, 112, 101, 110, 100], [98, 101, 110, 100], [99, 111, 109, 112, 97, 99, 116], [99, 114, 97, 115, 104], [100, 101, 108, 105, 118, 101, 114], [100, 114, 111, 112], [114, 101, 102, 117, 115, 101], [115, 101, 110, 100], [115, 121, 110, 99], [116, 105, 99, 107], [116, 119, 105, 99, 101]]
def gaText : Bs := [97, 112, 112, 101, 110, 100, 32, 98, 101, 110, 100, 32, 99, 111, 109, 112, 97, 99, 116, 32, 99, 114, 97, 115, 104, 32, 100, 101, 108, 105, 118, 101, 114, 32, 100, 114, 111, 112, 32, 114, 101, 102, 117, 115, 101, 32, 115, 101, 110, 100, 32, 115, 121, 110, 99, 32, 116, 105, 99, 107, 32, 116, 119, 105, 99, 101]
theorem gaFields : Lib.fields gaText = gaNames := by decide
def strV (b : Bs) : Value := .string ⟨b.toArray⟩
theorem str_info : (Tryd.prog.info? 9).map (fun i => (i.zero, i.size, i.bytes)) = some (some (.string ByteArray.empty), 1, 16) := by kernel_rfl

set_option maxRecDepth 100000 in
theorem ga_Names (v : Value) (w : World) (h : Tab w) : Calls Tryd.prog 10 #[v] w fun e w' => e = .returned (.slice (some ⟨w.heap.size, 0, none⟩) 11 11) ∧ w' = w.alloc (.cells (gaNames.map strV).toArray 9) := by
  have hf := Any.strings_Fields_core fieldsL str_info ⟨gaText.toArray⟩ w (by decide) (by
    intro j b hj
    have hall : gaText.all (fun b => decide (b.toNat < 128)) = true := by decide
    have hm : b ∈ gaText := List.mem_of_getElem? (by simpa using hj)
    simpa using List.all_eq_true.1 hall b hm) h
  have e1 : ((⟨gaText.toArray⟩ : ByteArray).data.toList) = gaText := rfl
  rw [e1, gaFields] at hf
  have HF := hide hf
  clear hf
  go_enter Tryd.func10, Tryd.ntmps10
  go_wp2_with (go_at_call 19; refine (show Calls Tryd.prog 19 #[.string ⟨gaText.toArray⟩] w _ from HF.out).mono ?_; rintro e w' ⟨rfl, rfl⟩)
  go_ret
  exact ⟨rfl, rfl⟩
end Go.Proofs.YtgolknkapcelpaaDoor
