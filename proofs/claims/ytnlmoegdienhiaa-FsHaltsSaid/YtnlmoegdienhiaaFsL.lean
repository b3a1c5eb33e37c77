/-
  The walk of slices.Sorted(maps.Keys(m)): the library's text as the kit's contracts have it, laid at this program.
-/
import Derived.Test.YtnlmoegdienhiaaFsA
import Derived.Shelf.SlIter.Nil
import Derived.Shelf.SortM.Plain
import Derived.Shelf.SortM.SortNone
import Derived.Ground.GgzProg
import Derived.Ground.SlgmProg
namespace Go.Proofs.Ytnlmoegdienhiaa
open Go.RowKit Go.Maps Go.Sort Go.Shelf
set_option linter.unusedVariables false
set_option linter.unusedSimpArgs false

/-! the map's keys rise -/
theorem lt_of_before : ∀ {a b : Bs}, bytesBefore a b = true → a < b
  | [], [], h => by simp [bytesBefore] at h
  | [], _ :: _, _ => by simp
  | _ :: _, [], h => by simp [bytesBefore] at h
  | a :: r, b :: s, h => by
    simp only [bytesBefore, Bool.or_eq_true, decide_eq_true_eq, Bool.and_eq_true, beq_iff_eq] at h
    rw [List.cons_lt_cons_iff]
    rcases h with h | ⟨rfl, h⟩
    · exact .inl h
    · exact .inr ⟨rfl, lt_of_before h⟩
theorem pairwise_of_rising {H : Type} : ∀ {l : List (Lit × DataW H)}, (∀ p ∈ l, ∃ s, p.1 = .string s) → DataW.rising l = true → l.Pairwise fun p q => strOf p.1 < strOf q.1
  | [], _, _ => .nil
  | [_], _, _ => by simp
  | a :: b :: r, hk, h => by
    simp only [DataW.rising, Bool.and_eq_true] at h
    have ih := pairwise_of_rising (fun p hp => hk p (List.mem_cons_of_mem _ hp)) h.2
    have hab : strOf a.1 < strOf b.1 := by
      obtain ⟨x, hx⟩ := hk a (by simp)
      obtain ⟨y, hy⟩ := hk b (by simp)
      have h1 := h.1
      rw [hx, hy] at h1 ⊢
      exact lt_of_before h1
    refine .cons (fun q hq => ?_) ih
    rcases List.mem_cons.1 hq with rfl | hq
    · exact hab
    · exact List.lt_trans hab ((List.pairwise_cons.1 ih).1 q hq)
theorem map_rises {w : World} {mb : Nat} {E : List (Bs × Ent)} (h : FsMap w mb E) : (E.map (·.1)).Pairwise fun a b => a < b := by
  obtain ⟨es, clock, hb, F, hs, hD⟩ := h
  have h1 := Maps.fit_rising keysFs.keyed F
  have h2 : (es.toList.map (WideElems.rg Try.prog 9 (heldR isSl))).foldr DataW.insert [] = E.map fun p => (strL p.1, .held (p.2.v)) := by
    unfold MD at hD
    simp only [DataW.map.injEq] at hD
    exact hD.symm
  rw [h2] at h1
  have h3 := pairwise_of_rising (fun p hp => by
    obtain ⟨q, _, rfl⟩ := List.mem_map.1 hp
    exact ⟨q.1, rfl⟩) h1
  rw [List.pairwise_map] at h3 ⊢
  exact h3
theorem strKeys_MD (E : List (Bs × Ent)) : strKeys (MD strL Ent.v E) = E.map (·.1) := by
  show ((E.map fun p => (strL p.1, DataW.held p.2.v)).map fun p => strOf p.1) = E.map (·.1)
  rw [List.map_map]
  rfl
theorem size_MD (E : List (Bs × Ent)) : Maps.size (MD strL Ent.v E) = E.length := by
  unfold MD
  rw [Maps.size_eq, List.length_map]
theorem sort_keys {ks ss : List Bs} (hs : ks.Pairwise fun a b => a < b) (hp : ss.Perm ks) : ss.mergeSort (fun x y => decide (x ≤ y)) = ks := by
  have h1 := List.pairwise_mergeSort (le := fun x y : Bs => decide (x ≤ y)) (fun a b c => by simpa using fun h1 h2 => List.le_trans h1 h2) (fun a b => by simpa using List.le_total a b) ss
  have h2 : ks.Pairwise fun a b => (decide (a ≤ b)) = true := hs.imp fun h => by simpa using List.le_of_lt h
  exact List.Perm.eq_of_pairwise (fun a b _ _ h3 h4 => List.le_antisymm (by simpa using h3) (by simpa using h4)) h1 h2 ((List.mergeSort_perm ss _).trans hp)

def keysL_ren : Go.Shelf.Ren := ⟨fun | 7 => 59 | 10 => 66 | n => n, fun | 23 => 63 | 26 => 9 | 3 => 32 | 28 => 96 | 0 => 0 | 27 => 95 | 33 => 67 | 4 => 4 | n => n, fun | n => n⟩
theorem keysL : Go.Proofs.SlLaysZ.n7 Try.prog keysL_ren := {
  mixed := by kernel_rfl
  f7 := ⟨Try.f59.name, by decide, Try.func59.trans (congrArg some (by kernel_rfl))⟩
  f10 := ⟨Try.f66.name, by decide, Try.func66.trans (congrArg some (by kernel_rfl))⟩
  t0 := Try.underlying0
  a0 := Try.isAgg0
  z0 := Try.sizeOf0
  v0 := Try.zeroValue0
  t4 := Try.underlying4
  a4 := Try.isAgg4
  z4 := Try.sizeOf4
  v4 := Try.zeroValue4
  t23 := Try.underlying63
  a23 := Try.isAgg63
  z23 := Try.sizeOf63
  v23 := Try.zeroValue63
  t26 := Try.underlying9
  a26 := Try.isAgg9
  z26 := Try.sizeOf9
  v26 := Try.zeroValue9
  t27 := Try.underlying95
  a27 := Try.isAgg95
  z27 := Try.sizeOf95
  v27 := Try.zeroValue95
  t28 := Try.underlying96
  a28 := Try.isAgg96
  z28 := Try.sizeOf96
  v28 := Try.zeroValue96
  t33 := Try.underlying67
  a33 := Try.isAgg67
  z33 := Try.sizeOf67
  v33 := Try.zeroValue67 }
def sortedL_ren : Go.Shelf.Ren := ⟨fun | 6 => 58 | 8 => 64 | 9 => 65 | 11 => 67 | 13 => 69 | 12 => 68 | 23 => 79 | 24 => 80 | 14 => 70 | 15 => 71 | 16 => 72 | 17 => 73 | 18 => 74 | 19 => 75 | 20 => 76 | 21 => 77 | 22 => 78 | 25 => 81 | 26 => 82 | 27 => 83 | 28 => 84 | 29 => 85 | 30 => 86 | 31 => 87 | n => n, fun | 26 => 9 | 28 => 96 | 24 => 93 | 0 => 0 | 3 => 3 | 37 => 104 | 48 => 113 | 50 => 115 | 4 => 4 | 40 => 107 | 39 => 106 | 45 => 74 | 5 => 5 | 9 => 9 | 51 => 116 | 55 => 64 | 57 => 121 | 58 => 122 | 33 => 67 | n => n, fun | n => n⟩
theorem sortedL : Go.Proofs.SlLaysZ.n6 Try.prog sortedL_ren := {
  mixed := by kernel_rfl
  f6 := ⟨Try.f58.name, by decide, Try.func58.trans (congrArg some (by kernel_rfl))⟩
  f8 := ⟨Try.f64.name, by decide, Try.func64.trans (congrArg some (by kernel_rfl))⟩
  f11 := ⟨Try.f67.name, by decide, Try.func67.trans (congrArg some (by kernel_rfl))⟩
  t0 := Try.underlying0
  a0 := Try.isAgg0
  z0 := Try.sizeOf0
  v0 := Try.zeroValue0
  t24 := Try.underlying93
  a24 := Try.isAgg93
  z24 := Try.sizeOf93
  v24 := Try.zeroValue93
  t26 := Try.underlying9
  a26 := Try.isAgg9
  z26 := Try.sizeOf9
  v26 := Try.zeroValue9
  t28 := Try.underlying96
  a28 := Try.isAgg96
  z28 := Try.sizeOf96
  v28 := Try.zeroValue96
  i26 := by kernel_rfl }
def sortL_ren : Go.Shelf.Ren := ⟨fun | 6 => 65 | 8 => 69 | 9 => 68 | 19 => 79 | 20 => 80 | 21 => 70 | 22 => 71 | 23 => 72 | 24 => 73 | 25 => 74 | 26 => 75 | 27 => 76 | 28 => 77 | 29 => 78 | 36 => 81 | 31 => 82 | 32 => 83 | 37 => 84 | 38 => 85 | 39 => 86 | 41 => 87 | n => n, fun | 27 => 93 | 29 => 9 | 3 => 3 | 32 => 104 | 26 => 93 | 0 => 0 | 44 => 113 | 46 => 115 | 4 => 4 | 36 => 107 | 35 => 106 | 41 => 74 | 5 => 5 | 9 => 9 | 53 => 116 | 57 => 64 | 63 => 121 | 64 => 122 | n => n, fun | n => n⟩
theorem sortL : Go.Proofs.SlLaysM.n6 Try.prog sortL_ren := {
  mixed := by kernel_rfl
  f6 := ⟨Try.f65.name, by decide, Try.func65.trans (congrArg some (by kernel_rfl))⟩
  f8 := Try.func69.trans (congrArg some (by kernel_rfl))
  f9 := ⟨Try.f68.name, by decide, Try.func68.trans (congrArg some (by kernel_rfl))⟩
  f19 := Try.func79.trans (congrArg some (by kernel_rfl))
  f20 := Try.func80.trans (congrArg some (by kernel_rfl))
  f21 := ⟨Try.f70.name, by decide, Try.func70.trans (congrArg some (by kernel_rfl))⟩
  f22 := ⟨Try.f71.name, by decide, Try.func71.trans (congrArg some (by kernel_rfl))⟩
  f23 := ⟨Try.f72.name, by decide, Try.func72.trans (congrArg some (by kernel_rfl))⟩
  f24 := ⟨Try.f73.name, by decide, Try.func73.trans (congrArg some (by kernel_rfl))⟩
  f25 := ⟨Try.f74.name, by decide, Try.func74.trans (congrArg some (by kernel_rfl))⟩
  f26 := ⟨Try.f75.name, by decide, Try.func75.trans (congrArg some (by kernel_rfl))⟩
  f27 := ⟨Try.f76.name, by decide, Try.func76.trans (congrArg some (by kernel_rfl))⟩
  f28 := ⟨Try.f77.name, by decide, Try.func77.trans (congrArg some (by kernel_rfl))⟩
  f29 := ⟨Try.f78.name, by decide, Try.func78.trans (congrArg some (by kernel_rfl))⟩
  f31 := Try.func82.trans (congrArg some (by kernel_rfl))
  f32 := Try.func83.trans (congrArg some (by kernel_rfl))
  f36 := ⟨Try.f81.name, by decide, Try.func81.trans (congrArg some (by kernel_rfl))⟩
  f37 := ⟨Try.f84.name, by decide, Try.func84.trans (congrArg some (by kernel_rfl))⟩
  f38 := ⟨Try.f85.name, by decide, Try.func85.trans (congrArg some (by kernel_rfl))⟩
  f39 := ⟨Try.f86.name, by decide, Try.func86.trans (congrArg some (by kernel_rfl))⟩
  f41 := ⟨Try.f87.name, by decide, Try.func87.trans (congrArg some (by kernel_rfl))⟩
  t0 := Try.underlying0
  a0 := Try.isAgg0
  z0 := Try.sizeOf0
  v0 := Try.zeroValue0
  t3 := Try.underlying3
  a3 := Try.isAgg3
  z3 := Try.sizeOf3
  v3 := Try.zeroValue3
  t4 := Try.underlying4
  a4 := Try.isAgg4
  z4 := Try.sizeOf4
  v4 := Try.zeroValue4
  t5 := Try.underlying5
  a5 := Try.isAgg5
  z5 := Try.sizeOf5
  v5 := Try.zeroValue5
  t9 := Try.underlying9
  a9 := Try.isAgg9
  z9 := Try.sizeOf9
  v9 := Try.zeroValue9
  t26 := Try.underlying93
  a26 := Try.isAgg93
  z26 := Try.sizeOf93
  v26 := Try.zeroValue93
  t27 := Try.underlying93
  a27 := Try.isAgg93
  z27 := Try.sizeOf93
  v27 := Try.zeroValue93
  t29 := Try.underlying9
  a29 := Try.isAgg9
  z29 := Try.sizeOf9
  v29 := Try.zeroValue9
  t32 := Try.underlying104
  a32 := Try.isAgg104
  z32 := Try.sizeOf104
  v32 := Try.zeroValue104
  t35 := Try.underlying106
  a35 := Try.isAgg106
  z35 := Try.sizeOf106
  v35 := Try.zeroValue106
  t36 := Try.underlying107
  a36 := Try.isAgg107
  z36 := Try.sizeOf107
  v36 := Try.zeroValue107
  t41 := Try.underlying74
  a41 := Try.isAgg74
  z41 := Try.sizeOf74
  v41 := Try.zeroValue74
  t44 := Try.underlying113
  a44 := Try.isAgg113
  z44 := Try.sizeOf113
  v44 := Try.zeroValue113
  t46 := Try.underlying115
  a46 := Try.isAgg115
  z46 := Try.sizeOf115
  v46 := Try.zeroValue115
  t53 := Try.underlying116
  a53 := Try.isAgg116
  z53 := Try.sizeOf116
  v53 := Try.zeroValue116
  t57 := Try.underlying64
  a57 := Try.isAgg64
  z57 := Try.sizeOf64
  v57 := Try.zeroValue64
  t63 := Try.underlying121
  a63 := Try.isAgg121
  z63 := Try.sizeOf121
  v63 := Try.zeroValue121
  t64 := Try.underlying122
  a64 := Try.isAgg122
  z64 := Try.sizeOf122
  v64 := Try.zeroValue122 }


theorem sortsL (m : Nat) : AnyZ.SortsIn Try.prog sortedL_ren Fence.wide m :=
  ⟨fun blk off cap ss W hH hblk hsz => callsIn_wide.2 (AnyM.slices_Sort_string sortL blk off cap ss W hH hblk hsz),
   fun p cap W => callsIn_wide.2 (AnyM.slices_Sort_string_none sortL p cap W)⟩

theorem keys_told (mb : Option Nat) (W : World) : Calls Try.prog 59 #[.map mb] W fun e w' => e = .returned (.func (.func 66) #[] #[.pointer (some ⟨W.heap.size, 0, none⟩)]) ∧ W.alloc (.cells #[.map mb] 63) = w' := by
  have h := AnyZ.keys_in keysL Fence.wide 5 trivial rfl mb W
  refine (callsIn_wide.1 (show CallsIn Fence.wide 5 Try.prog 59 #[.map mb] W fun e w' => e = .returned (.func (.func 66) #[] #[.pointer (some ⟨W.heap.size, 0, none⟩)]) ∧ w' = W.alloc (.cells #[.map mb] 63) from h)).mono ?_
  rintro e w' ⟨h1, h2⟩
  exact ⟨h1, h2.symm⟩
theorem sorted_told (mb : Nat) (E : List (Bs × Ent)) (w : World) (h : FsMap w mb E) (hl : E.length ≤ 1000000) : Calls Try.prog 58 #[.func (.func 66) #[] #[.pointer (some ⟨w.heap.size, 0, none⟩)]] (w.alloc (.cells #[.map (some mb)] 63)) fun e w' => ∃ v, e = .returned v ∧ w'.ownsRow w.heap.size 9 1 v E.length ((E.map (·.1)).map encStr) ∧ Below w.heap.size w w' := by
  have hbl := h.lt
  have hrise := map_rises h
  have hseq : SeqGives Fence.wide 2 Try.prog 66 #[.pointer (some ⟨w.heap.size, 0, none⟩)] encStr (fun ss => ss.Perm (strKeys (MD strL Ent.v E))) (Maps.size (MD strL Ent.v E)) (w.alloc (.cells #[.map (some mb)] 63)) :=
    AnyZ.keys_gives (ρ := keysL_ren) { keysL with } Fence.wide _ trivial rfl (by omega) w.heap.size mb E.length _ _ (by simp) (by simp) (by
      obtain ⟨es, clock, hb, Ft, hs, hD⟩ := h
      exact ⟨es, clock, (Below.heap_alloc _ _ mb hbl).trans hb, Ft, hs, hD⟩)
  have hmax : Maps.size (MD strL Ent.v E) ≤ maxLen := by rw [size_MD]; unfold maxLen; omega
  have hbytes : Maps.size (MD strL Ent.v E) * 16 ≤ 140737488355328 := by rw [size_MD]; omega
  have cS := AnyZ.sorted_in sortedL Fence.wide 5 trivial trivial trivial trivial rfl (by omega) (sortsL _) (enters_of Try.func65 (by kernel_rfl) rfl) 66 #[.pointer (some ⟨w.heap.size, 0, none⟩)] trivial (enters_of Try.func66 (by kernel_rfl) rfl) _ _ hmax hbytes _ hseq
  change CallsIn _ _ Try.prog 58 _ _ _ at cS
  refine (callsIn_wide.1 cS).mono ?_
  rintro e w' ⟨v, ss, h1, h2, h3, h4, h5⟩
  rw [strKeys_MD] at h2
  have h6 : ss.length = E.length := by rw [h2.length_eq, List.length_map]
  rw [sort_keys hrise h2, h6] at h3
  exact ⟨v, h1, ownsRow_base h3 (by simp), ((below_alloc w _).trans (h5.mono (by simp)))⟩
end Go.Proofs.Ytnlmoegdienhiaa
