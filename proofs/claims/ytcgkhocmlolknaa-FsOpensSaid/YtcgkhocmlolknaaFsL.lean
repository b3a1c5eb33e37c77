/-
  The walk of slices.Sorted(maps.Keys(m)): the library's text as the kit's contracts have it, laid at this program.
-/
import Derived.Test.YtcgkhocmlolknaaFsA
import Derived.Shelf.SlIter.Nil
import Derived.Shelf.SortM.Plain
import Derived.Shelf.SortM.SortNone
import Derived.Ground.GgzProg
import Derived.Ground.SlgmProg
namespace Go.Proofs.Ytcgkhocmlolknaa
open Go.RowKit Go.Maps Go.Sort Go.Shelf
set_option linter.unusedVariables false
set_option linter.unusedSimpArgs false

/-! the map's keys rise -/
theorem lt_of_before : ∀ {a b : Bs}, bytesBefore a b = true → a < b
  | [], [], h => by simp [bytesBefore] at h
  | [], _ :: _, _ => by simp
  | _ :: _, [], h => by simp [bytesBefore] at h
  | a :: r, b :: s, h => by
    simp only [bytesBefore, Bool.or_eq_true, decide_eq_true_eq, Bool.and_eq_true, beq_iff_eq] at h
    rw [List.cons_lt_cons_iff]
    rcases h with h | ⟨rfl, h⟩
    · exact .inl h
    · exact .inr ⟨rfl, lt_of_before h⟩
theorem pairwise_of_rising {H : Type} : ∀ {l : List (Lit × DataW H)}, (∀ p ∈ l, ∃ s, p.1 = .string s) → DataW.rising l = true → l.Pairwise fun p q => strOf p.1 < strOf q.1
  | [], _, _ => .nil
  | [_], _, _ => by simp
  | a :: b :: r, hk, h => by
    simp only [DataW.rising, Bool.and_eq_true] at h
    have ih := pairwise_of_rising (fun p hp => hk p (List.mem_cons_of_mem _ hp)) h.2
    have hab : strOf a.1 < strOf b.1 := by
      obtain ⟨x, hx⟩ := hk a (by simp)
      obtain ⟨y, hy⟩ := hk b (by simp)
      have h1 := h.1
      rw [hx, hy] at h1 ⊢
      exact lt_of_before h1
    refine .cons (fun q hq => ?_) ih
    rcases List.mem_cons.1 hq with rfl | hq
    · exact hab
    · exact List.lt_trans hab ((List.pairwise_cons.1 ih).1 q hq)
theorem map_rises {w : World} {mb : Nat} {E : List (Bs × Ent)} (h : FsMap w mb E) : (E.map (·.1)).Pairwise fun a b => a < b := by
  obtain ⟨es, clock, hb, F, hs, hD⟩ := h
  have h1 := Maps.fit_rising keysFs.keyed F
  have h2 : (es.toList.map (WideElems.rg Try.prog 9 (heldR isSl))).foldr DataW.insert [] = E.map fun p => (strL p.1, .held (p.2.v)) := by
    unfold MD at hD
    simp only [DataW.map.injEq] at hD
    exact hD.symm
  rw [h2] at h1
  have h3 := pairwise_of_rising (fun p hp => by
    obtain ⟨q, _, rfl⟩ := List.mem_map.1 hp
    exact ⟨q.1, rfl⟩) h1
  rw [List.pairwise_map] at h3 ⊢
  exact h3
theorem strKeys_MD (E : List (Bs × Ent)) : strKeys (MD strL Ent.v E) = E.map (·.1) := by
  show ((E.map fun p => (strL p.1, DataW.held p.2.v)).map fun p => strOf p.1) = E.map (·.1)
  rw [List.map_map]
  rfl
theorem size_MD (E : List (Bs × Ent)) : Maps.size (MD strL Ent.v E) = E.length := by
  unfold MD
  rw [Maps.size_eq, List.length_map]
theorem sort_keys {ks ss : List Bs} (hs : ks.Pairwise fun a b => a < b) (hp : ss.Perm ks) : ss.mergeSort (fun x y => decide (x ≤ y)) = ks := by
  have h1 := List.pairwise_mergeSort (le := fun x y : Bs => decide (x ≤ y)) (fun a b c => by simpa using fun h1 h2 => List.le_trans h1 h2) (fun a b => by simpa using List.le_total a b) ss
  have h2 : ks.Pairwise fun a b => (decide (a ≤ b)) = true := hs.imp fun h => by simpa using List.le_of_lt h
  exact List.Perm.eq_of_pairwise (fun a b _ _ h3 h4 => List.le_antisymm (by simpa using h3) (by simpa using h4)) h1 h2 ((List.mergeSort_perm ss _).trans hp)

def keysL_ren : Go.Shelf.Ren := ⟨fun | 7 => 57 | 10 => 61 | n => n, fun | 23 => 54 | 26 => 9 | 3 => 27 | 28 => 92 | 0 => 0 | 27 => 91 | 33 => 58 | 4 => 4 | n => n, fun | n => n⟩
theorem keysL : Go.Proofs.SlLaysZ.n7 Try.prog keysL_ren := {
  mixed := by kernel_rfl
  f7 := ⟨Try.f57.name, by decide, Try.func57.trans (congrArg some (by kernel_rfl))⟩
  f10 := ⟨Try.f61.name, by decide, Try.func61.trans (congrArg some (by kernel_rfl))⟩
  t0 := Try.underlying0
  a0 := Try.isAgg0
  z0 := Try.sizeOf0
  v0 := Try.zeroValue0
  t4 := Try.underlying4
  a4 := Try.isAgg4
  z4 := Try.sizeOf4
  v4 := Try.zeroValue4
  t23 := Try.underlying54
  a23 := Try.isAgg54
  z23 := Try.sizeOf54
  v23 := Try.zeroValue54
  t26 := Try.underlying9
  a26 := Try.isAgg9
  z26 := Try.sizeOf9
  v26 := Try.zeroValue9
  t27 := Try.underlying91
  a27 := Try.isAgg91
  z27 := Try.sizeOf91
  v27 := Try.zeroValue91
  t28 := Try.underlying92
  a28 := Try.isAgg92
  z28 := Try.sizeOf92
  v28 := Try.zeroValue92
  t33 := Try.underlying58
  a33 := Try.isAgg58
  z33 := Try.sizeOf58
  v33 := Try.zeroValue58 }
def sortedL_ren : Go.Shelf.Ren := ⟨fun | 6 => 56 | 8 => 59 | 9 => 60 | 11 => 62 | 13 => 64 | 12 => 63 | 23 => 74 | 24 => 75 | 14 => 65 | 15 => 66 | 16 => 67 | 17 => 68 | 18 => 69 | 19 => 70 | 20 => 71 | 21 => 72 | 22 => 73 | 25 => 76 | 26 => 77 | 27 => 78 | 28 => 79 | 29 => 80 | 30 => 81 | 31 => 82 | n => n, fun | 26 => 9 | 28 => 92 | 24 => 89 | 0 => 0 | 3 => 3 | 37 => 99 | 48 => 108 | 50 => 110 | 4 => 4 | 40 => 102 | 39 => 101 | 45 => 60 | 5 => 5 | 9 => 9 | 51 => 111 | 55 => 55 | 57 => 116 | 58 => 117 | 33 => 58 | n => n, fun | n => n⟩
theorem sortedL : Go.Proofs.SlLaysZ.n6 Try.prog sortedL_ren := {
  mixed := by kernel_rfl
  f6 := ⟨Try.f56.name, by decide, Try.func56.trans (congrArg some (by kernel_rfl))⟩
  f8 := ⟨Try.f59.name, by decide, Try.func59.trans (congrArg some (by kernel_rfl))⟩
  f11 := ⟨Try.f62.name, by decide, Try.func62.trans (congrArg some (by kernel_rfl))⟩
  t0 := Try.underlying0
  a0 := Try.isAgg0
  z0 := Try.sizeOf0
  v0 := Try.zeroValue0
  t24 := Try.underlying89
  a24 := Try.isAgg89
  z24 := Try.sizeOf89
  v24 := Try.zeroValue89
  t26 := Try.underlying9
  a26 := Try.isAgg9
  z26 := Try.sizeOf9
  v26 := Try.zeroValue9
  t28 := Try.underlying92
  a28 := Try.isAgg92
  z28 := Try.sizeOf92
  v28 := Try.zeroValue92
  i26 := by kernel_rfl }
def sortL_ren : Go.Shelf.Ren := ⟨fun | 6 => 60 | 8 => 64 | 9 => 63 | 19 => 74 | 20 => 75 | 21 => 65 | 22 => 66 | 23 => 67 | 24 => 68 | 25 => 69 | 26 => 70 | 27 => 71 | 28 => 72 | 29 => 73 | 36 => 76 | 31 => 77 | 32 => 78 | 37 => 79 | 38 => 80 | 39 => 81 | 41 => 82 | n => n, fun | 27 => 89 | 29 => 9 | 3 => 3 | 32 => 99 | 26 => 89 | 0 => 0 | 44 => 108 | 46 => 110 | 4 => 4 | 36 => 102 | 35 => 101 | 41 => 60 | 5 => 5 | 9 => 9 | 53 => 111 | 57 => 55 | 63 => 116 | 64 => 117 | n => n, fun | n => n⟩
theorem sortL : Go.Proofs.SlLaysM.n6 Try.prog sortL_ren := {
  mixed := by kernel_rfl
  f6 := ⟨Try.f60.name, by decide, Try.func60.trans (congrArg some (by kernel_rfl))⟩
  f8 := Try.func64.trans (congrArg some (by kernel_rfl))
  f9 := ⟨Try.f63.name, by decide, Try.func63.trans (congrArg some (by kernel_rfl))⟩
  f19 := Try.func74.trans (congrArg some (by kernel_rfl))
  f20 := Try.func75.trans (congrArg some (by kernel_rfl))
  f21 := ⟨Try.f65.name, by decide, Try.func65.trans (congrArg some (by kernel_rfl))⟩
  f22 := ⟨Try.f66.name, by decide, Try.func66.trans (congrArg some (by kernel_rfl))⟩
  f23 := ⟨Try.f67.name, by decide, Try.func67.trans (congrArg some (by kernel_rfl))⟩
  f24 := ⟨Try.f68.name, by decide, Try.func68.trans (congrArg some (by kernel_rfl))⟩
  f25 := ⟨Try.f69.name, by decide, Try.func69.trans (congrArg some (by kernel_rfl))⟩
  f26 := ⟨Try.f70.name, by decide, Try.func70.trans (congrArg some (by kernel_rfl))⟩
  f27 := ⟨Try.f71.name, by decide, Try.func71.trans (congrArg some (by kernel_rfl))⟩
  f28 := ⟨Try.f72.name, by decide, Try.func72.trans (congrArg some (by kernel_rfl))⟩
  f29 := ⟨Try.f73.name, by decide, Try.func73.trans (congrArg some (by kernel_rfl))⟩
  f31 := Try.func77.trans (congrArg some (by kernel_rfl))
  f32 := Try.func78.trans (congrArg some (by kernel_rfl))
  f36 := ⟨Try.f76.name, by decide, Try.func76.trans (congrArg some (by kernel_rfl))⟩
  f37 := ⟨Try.f79.name, by decide, Try.func79.trans (congrArg some (by kernel_rfl))⟩
  f38 := ⟨Try.f80.name, by decide, Try.func80.trans (congrArg some (by kernel_rfl))⟩
  f39 := ⟨Try.f81.name, by decide, Try.func81.trans (congrArg some (by kernel_rfl))⟩
  f41 := ⟨Try.f82.name, by decide, Try.func82.trans (congrArg some (by kernel_rfl))⟩
  t0 := Try.underlying0
  a0 := Try.isAgg0
  z0 := Try.sizeOf0
  v0 := Try.zeroValue0
  t3 := Try.underlying3
  a3 := Try.isAgg3
  z3 := Try.sizeOf3
  v3 := Try.zeroValue3
  t4 := Try.underlying4
  a4 := Try.isAgg4
  z4 := Try.sizeOf4
  v4 := Try.zeroValue4
  t5 := Try.underlying5
  a5 := Try.isAgg5
  z5 := Try.sizeOf5
  v5 := Try.zeroValue5
  t9 := Try.underlying9
  a9 := Try.isAgg9
  z9 := Try.sizeOf9
  v9 := Try.zeroValue9
  t26 := Try.underlying89
  a26 := Try.isAgg89
  z26 := Try.sizeOf89
  v26 := Try.zeroValue89
  t27 := Try.underlying89
  a27 := Try.isAgg89
  z27 := Try.sizeOf89
  v27 := Try.zeroValue89
  t29 := Try.underlying9
  a29 := Try.isAgg9
  z29 := Try.sizeOf9
  v29 := Try.zeroValue9
  t32 := Try.underlying99
  a32 := Try.isAgg99
  z32 := Try.sizeOf99
  v32 := Try.zeroValue99
  t35 := Try.underlying101
  a35 := Try.isAgg101
  z35 := Try.sizeOf101
  v35 := Try.zeroValue101
  t36 := Try.underlying102
  a36 := Try.isAgg102
  z36 := Try.sizeOf102
  v36 := Try.zeroValue102
  t41 := Try.underlying60
  a41 := Try.isAgg60
  z41 := Try.sizeOf60
  v41 := Try.zeroValue60
  t44 := Try.underlying108
  a44 := Try.isAgg108
  z44 := Try.sizeOf108
  v44 := Try.zeroValue108
  t46 := Try.underlying110
  a46 := Try.isAgg110
  z46 := Try.sizeOf110
  v46 := Try.zeroValue110
  t53 := Try.underlying111
  a53 := Try.isAgg111
  z53 := Try.sizeOf111
  v53 := Try.zeroValue111
  t57 := Try.underlying55
  a57 := Try.isAgg55
  z57 := Try.sizeOf55
  v57 := Try.zeroValue55
  t63 := Try.underlying116
  a63 := Try.isAgg116
  z63 := Try.sizeOf116
  v63 := Try.zeroValue116
  t64 := Try.underlying117
  a64 := Try.isAgg117
  z64 := Try.sizeOf117
  v64 := Try.zeroValue117 }


theorem sortsL (m : Nat) : AnyZ.SortsIn Try.prog sortedL_ren Fence.wide m :=
  ⟨fun blk off cap ss W hH hblk hsz => callsIn_wide.2 (AnyM.slices_Sort_string sortL blk off cap ss W hH hblk hsz),
   fun p cap W => callsIn_wide.2 (AnyM.slices_Sort_string_none sortL p cap W)⟩

theorem keys_told (mb : Option Nat) (W : World) : Calls Try.prog 57 #[.map mb] W fun e w' => e = .returned (.func (.func 61) #[] #[.pointer (some ⟨W.heap.size, 0, none⟩)]) ∧ W.alloc (.cells #[.map mb] 54) = w' := by
  have h := AnyZ.keys_in keysL Fence.wide 5 trivial rfl mb W
  refine (callsIn_wide.1 (show CallsIn Fence.wide 5 Try.prog 57 #[.map mb] W fun e w' => e = .returned (.func (.func 61) #[] #[.pointer (some ⟨W.heap.size, 0, none⟩)]) ∧ w' = W.alloc (.cells #[.map mb] 54) from h)).mono ?_
  rintro e w' ⟨h1, h2⟩
  exact ⟨h1, h2.symm⟩
theorem sorted_told (mb : Nat) (E : List (Bs × Ent)) (w : World) (h : FsMap w mb E) (hl : E.length ≤ 1000000) : Calls Try.prog 56 #[.func (.func 61) #[] #[.pointer (some ⟨w.heap.size, 0, none⟩)]] (w.alloc (.cells #[.map (some mb)] 54)) fun e w' => ∃ v, e = .returned v ∧ w'.ownsRow w.heap.size 9 1 v E.length ((E.map (·.1)).map encStr) ∧ Below w.heap.size w w' := by
  have hbl := h.lt
  have hrise := map_rises h
  have hseq : SeqGives Fence.wide 2 Try.prog 61 #[.pointer (some ⟨w.heap.size, 0, none⟩)] encStr (fun ss => ss.Perm (strKeys (MD strL Ent.v E))) (Maps.size (MD strL Ent.v E)) (w.alloc (.cells #[.map (some mb)] 54)) :=
    AnyZ.keys_gives (ρ := keysL_ren) { keysL with } Fence.wide _ trivial rfl (by omega) w.heap.size mb E.length _ _ (by simp) (by simp) (by
      obtain ⟨es, clock, hb, Ft, hs, hD⟩ := h
      exact ⟨es, clock, (Below.heap_alloc _ _ mb hbl).trans hb, Ft, hs, hD⟩)
  have hmax : Maps.size (MD strL Ent.v E) ≤ maxLen := by rw [size_MD]; unfold maxLen; omega
  have hbytes : Maps.size (MD strL Ent.v E) * 16 ≤ 140737488355328 := by rw [size_MD]; omega
  have cS := AnyZ.sorted_in sortedL Fence.wide 5 trivial trivial trivial trivial rfl (by omega) (sortsL _) (enters_of Try.func60 (by kernel_rfl) rfl) 61 #[.pointer (some ⟨w.heap.size, 0, none⟩)] trivial (enters_of Try.func61 (by kernel_rfl) rfl) _ _ hmax hbytes _ hseq
  change CallsIn _ _ Try.prog 56 _ _ _ at cS
  refine (callsIn_wide.1 cS).mono ?_
  rintro e w' ⟨v, ss, h1, h2, h3, h4, h5⟩
  rw [strKeys_MD] at h2
  have h6 : ss.length = E.length := by rw [h2.length_eq, List.length_map]
  rw [sort_keys hrise h2, h6] at h3
  exact ⟨v, h1, ownsRow_base h3 (by simp), ((below_alloc w _).trans (h5.mono (by simp)))⟩
end Go.Proofs.Ytcgkhocmlolknaa
