/-
  Small laws of calls as data.
-/
import Derived.Test.YtcgkhocmlolknaaFsY
namespace Go.Proofs.Ytcgkhocmlolknaa
open Go.RowKit Go.Maps
set_option linter.unusedVariables false
set_option linter.unusedSimpArgs false

theorem FilesAt.chg {B : Nat} {t : TypeId} {w w' : World} {v : Value} {L : List (Bs × Ent)} {F F' : List Nat} (h : FilesAt B t w v L) (hC : Chg F F' w w') (hd : ∀ k ∈ F, k < B) : FilesAt B t w' v L :=
  ⟨ownsRow_same h.row fun k hk => hC.block k (h.row.lt k hk).2 fun hm => by have := hd k hm; have := (h.row.lt k hk).1; omega,
   fun p hp => (h.ent p hp).same (fun k hk => hC.block k ((h.ent p hp).far k hk).2 fun hm => by have := hd k hm; have := h.ge p hp k hk; omega) hC.size, h.ge⟩
theorem Opr.Ok.lowB {W : World} {o : Opr} (h : o.Ok W) : 0 < o.bn → ∀ k, (Value.slice o.ba o.bn o.bc).ownBlock = some k → k < W.heap.size := fun h0 k hk => by
  obtain ⟨b9, o9, c9, he, _, hb9⟩ := RdB.at h.rb (k := 0) (by have := h.bn; omega)
  simp only [Value.slice.injEq] at he
  rw [he.1] at hk
  simp only [Value.ownBlock, Option.some.injEq] at hk
  omega
theorem Opr.Ok.lowK {W : World} {o : Opr} (h : o.Ok W) : 0 < o.kn → ∀ k, (Value.slice o.ka o.kn o.kc).ownBlock = some k → k < W.heap.size := RdK.lowK h.rk h.kn
theorem tmod14 (k : Nat) : (k : Int).tmod 14 = ((k % 14 : Nat) : Int) := by
  rw [Int.tmod_eq_emod_of_nonneg (by omega)]
  omega
theorem fsFiles_len {s : FsS} (ok : s.Ok) : (fsFiles s).length ≤ 8 := by unfold fsFiles; rw [List.length_map]; exact ok.few
end Go.Proofs.Ytcgkhocmlolknaa
