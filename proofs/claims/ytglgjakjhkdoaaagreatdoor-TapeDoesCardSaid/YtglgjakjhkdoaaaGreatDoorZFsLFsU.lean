/-
The walk of slices.Sorted(maps.Keys(m)): the library's text as the kit's contracts have it, laid at this program.
The walk of a file system's Files.
-/
import Derived.Test.YtglgjakjhkdoaaaGreatDoorZFsMFsA
import Derived.Shelf.SlIter.Nil
import Derived.Shelf.SortM.Plain
import Derived.Shelf.SortM.SortNone
import Derived.Ground.GgzProg
import Derived.Ground.SlgmProg
import Derived.Test.YtglgjakjhkdoaaaGreatDoorZFsT
namespace Go.Proofs.YtglgjakjhkdoaaaGreatDoor
open Go.RowKit Go.Maps Go.Sort Go.Shelf
set_option linter.unusedVariables false
set_option linter.unusedSimpArgs false

theorem lt_of_before : ∀ {a b : Bs}, bytesBefore a b = true → a < b
  | [], [], h => by simp [bytesBefore] at h
  | [], _ :: _, _ => by simp
  | _ :: _, [], h => by simp [bytesBefore] at h
  | a :: r, b :: s, h => by
    simp only [bytesBefore, Bool.or_eq_true, decide_eq_true_eq, Bool.and_eq_true, beq_iff_eq] at h
    rw [List.cons_lt_cons_iff]
    rcases h with h | ⟨rfl, h⟩
    · exact .inl h
    · exact .inr ⟨rfl, lt_of_before h⟩
theorem pairwise_of_rising {H : Type} : ∀ {l : List (Lit × DataW H)}, (∀ p ∈ l, ∃ s, p.1 = .string s) → DataW.rising l = true → l.Pairwise fun p q => strOf p.1 < strOf q.1
  | [], _, _ => .nil
  | [_], _, _ => by simp
  | a :: b :: r, hk, h => by
    simp only [DataW.rising, Bool.and_eq_true] at h
    have ih := pairwise_of_rising (fun p hp => hk p (List.mem_cons_of_mem _ hp)) h.2
    have hab : strOf a.1 < strOf b.1 := by
      obtain ⟨x, hx⟩ := hk a (by simp)
      obtain ⟨y, hy⟩ := hk b (by simp)
      have h1 := h.1
      rw [hx, hy] at h1 ⊢
      exact lt_of_before h1
    refine .cons (fun q hq => ?_) ih
    rcases List.mem_cons.1 hq with rfl | hq
    · exact hab
    · exact List.lt_trans hab ((List.pairwise_cons.1 ih).1 q hq)
theorem map_rises {w : World} {mb : Nat} {E : List (Bs × Ent)} (h : FsMap w mb E) : (E.map (·.1)).Pairwise fun a b => a < b := by
  obtain ⟨es, clock, hb, F, hs, hD⟩ := h
  have h1 := Maps.fit_rising keysFs.keyed F
  have h2 : (es.toList.map (WideElems.rg Tryz.prog 9 (heldR isSl))).foldr DataW.insert [] = E.map fun p => (strL p.1, .held (p.2.v)) := by
    unfold MD at hD
    simp only [DataW.map.injEq] at hD
    exact hD.symm
  rw [h2] at h1
  have h3 := pairwise_of_rising (fun p hp => by
    obtain ⟨q, _, rfl⟩ := List.mem_map.1 hp
    exact ⟨q.1, rfl⟩) h1
  rw [List.pairwise_map] at h3 ⊢
  exact h3
theorem strKeys_MD (E : List (Bs × Ent)) : strKeys (MD strL Ent.v E) = E.map (·.1) := by
  show ((E.map fun p => (strL p.1, DataW.held p.2.v)).map fun p => strOf p.1) = E.map (·.1)
  rw [List.map_map]
  rfl
theorem size_MD (E : List (Bs × Ent)) : Maps.size (MD strL Ent.v E) = E.length := by
  unfold MD
  rw [Maps.size_eq, List.length_map]
theorem sort_keys {ks ss : List Bs} (hs : ks.Pairwise fun a b => a < b) (hp : ss.Perm ks) : ss.mergeSort (fun x y => decide (x ≤ y)) = ks := by
  have h1 := List.pairwise_mergeSort (le := fun x y : Bs => decide (x ≤ y)) (fun a b c => by simpa using fun h1 h2 => List.le_trans h1 h2) (fun a b => by simpa using List.le_total a b) ss
  have h2 : ks.Pairwise fun a b => (decide (a ≤ b)) = true := hs.imp fun h => by simpa using List.le_of_lt h
  exact List.Perm.eq_of_pairwise (fun a b _ _ h3 h4 => List.le_antisymm (by simpa using h3) (by simpa using h4)) h1 h2 ((List.mergeSort_perm ss _).trans hp)

def keysL_ren : Go.Shelf.Ren := ⟨fun | 7 => 76 | 10 => 83 | n => n, fun | 23 => 55 | 26 => 9 | 3 => 22 | 28 => 121 | 0 => 0 | 27 => 120 | 33 => 64 | 4 => 4 | n => n, fun | n => n⟩
theorem keysL : Go.Proofs.SlLaysZ.n7 Tryz.prog keysL_ren := {
  mixed := by kernel_rfl
  f7 := ⟨Tryz.f76.name, by decide, Tryz.func76.trans (congrArg some (by kernel_rfl))⟩
  f10 := ⟨Tryz.f83.name, by decide, Tryz.func83.trans (congrArg some (by kernel_rfl))⟩
  t0 := Tryz.underlying0
  a0 := Tryz.isAgg0
  z0 := Tryz.sizeOf0
  v0 := Tryz.zeroValue0
  t4 := Tryz.underlying4
  a4 := Tryz.isAgg4
  z4 := Tryz.sizeOf4
  v4 := Tryz.zeroValue4
  t23 := Tryz.underlying55
  a23 := Tryz.isAgg55
  z23 := Tryz.sizeOf55
  v23 := Tryz.zeroValue55
  t26 := Tryz.underlying9
  a26 := Tryz.isAgg9
  z26 := Tryz.sizeOf9
  v26 := Tryz.zeroValue9
  t27 := Tryz.underlying120
  a27 := Tryz.isAgg120
  z27 := Tryz.sizeOf120
  v27 := Tryz.zeroValue120
  t28 := Tryz.underlying121
  a28 := Tryz.isAgg121
  z28 := Tryz.sizeOf121
  v28 := Tryz.zeroValue121
  t33 := Tryz.underlying64
  a33 := Tryz.isAgg64
  z33 := Tryz.sizeOf64
  v33 := Tryz.zeroValue64 }
def sortedL_ren : Go.Shelf.Ren := ⟨fun | 6 => 75 | 8 => 81 | 9 => 82 | 11 => 89 | 13 => 91 | 12 => 90 | 23 => 107 | 24 => 108 | 14 => 98 | 15 => 99 | 16 => 100 | 17 => 101 | 18 => 102 | 19 => 103 | 20 => 104 | 21 => 105 | 22 => 106 | 25 => 110 | 26 => 111 | 27 => 112 | 28 => 113 | 29 => 114 | 30 => 115 | 31 => 116 | n => n, fun | 26 => 9 | 28 => 121 | 24 => 118 | 0 => 0 | 3 => 3 | 37 => 138 | 48 => 149 | 50 => 151 | 4 => 4 | 40 => 143 | 39 => 142 | 45 => 69 | 5 => 5 | 9 => 9 | 51 => 158 | 55 => 57 | 57 => 163 | 58 => 164 | 33 => 64 | n => n, fun | n => n⟩
theorem sortedL : Go.Proofs.SlLaysZ.n6 Tryz.prog sortedL_ren := {
  mixed := by kernel_rfl
  f6 := ⟨Tryz.f75.name, by decide, Tryz.func75.trans (congrArg some (by kernel_rfl))⟩
  f8 := ⟨Tryz.f81.name, by decide, Tryz.func81.trans (congrArg some (by kernel_rfl))⟩
  f11 := ⟨Tryz.f89.name, by decide, Tryz.func89.trans (congrArg some (by kernel_rfl))⟩
  t0 := Tryz.underlying0
  a0 := Tryz.isAgg0
  z0 := Tryz.sizeOf0
  v0 := Tryz.zeroValue0
  t24 := Tryz.underlying118
  a24 := Tryz.isAgg118
  z24 := Tryz.sizeOf118
  v24 := Tryz.zeroValue118
  t26 := Tryz.underlying9
  a26 := Tryz.isAgg9
  z26 := Tryz.sizeOf9
  v26 := Tryz.zeroValue9
  t28 := Tryz.underlying121
  a28 := Tryz.isAgg121
  z28 := Tryz.sizeOf121
  v28 := Tryz.zeroValue121
  i26 := by kernel_rfl }
def sortL_ren : Go.Shelf.Ren := ⟨fun | 6 => 82 | 8 => 91 | 9 => 90 | 19 => 107 | 20 => 108 | 21 => 98 | 22 => 99 | 23 => 100 | 24 => 101 | 25 => 102 | 26 => 103 | 27 => 104 | 28 => 105 | 29 => 106 | 36 => 110 | 31 => 111 | 32 => 112 | 37 => 113 | 38 => 114 | 39 => 115 | 41 => 116 | n => n, fun | 27 => 118 | 29 => 9 | 3 => 3 | 32 => 138 | 26 => 118 | 0 => 0 | 44 => 149 | 46 => 151 | 4 => 4 | 36 => 143 | 35 => 142 | 41 => 69 | 5 => 5 | 9 => 9 | 53 => 158 | 57 => 57 | 63 => 163 | 64 => 164 | n => n, fun | n => n⟩
theorem sortL : Go.Proofs.SlLaysM.n6 Tryz.prog sortL_ren := {
  mixed := by kernel_rfl
  f6 := ⟨Tryz.f82.name, by decide, Tryz.func82.trans (congrArg some (by kernel_rfl))⟩
  f8 := Tryz.func91.trans (congrArg some (by kernel_rfl))
  f9 := ⟨Tryz.f90.name, by decide, Tryz.func90.trans (congrArg some (by kernel_rfl))⟩
  f19 := Tryz.func107.trans (congrArg some (by kernel_rfl))
  f20 := Tryz.func108.trans (congrArg some (by kernel_rfl))
  f21 := ⟨Tryz.f98.name, by decide, Tryz.func98.trans (congrArg some (by kernel_rfl))⟩
  f22 := ⟨Tryz.f99.name, by decide, Tryz.func99.trans (congrArg some (by kernel_rfl))⟩
  f23 := ⟨Tryz.f100.name, by decide, Tryz.func100.trans (congrArg some (by kernel_rfl))⟩
  f24 := ⟨Tryz.f101.name, by decide, Tryz.func101.trans (congrArg some (by kernel_rfl))⟩
  f25 := ⟨Tryz.f102.name, by decide, Tryz.func102.trans (congrArg some (by kernel_rfl))⟩
  f26 := ⟨Tryz.f103.name, by decide, Tryz.func103.trans (congrArg some (by kernel_rfl))⟩
  f27 := ⟨Tryz.f104.name, by decide, Tryz.func104.trans (congrArg some (by kernel_rfl))⟩
  f28 := ⟨Tryz.f105.name, by decide, Tryz.func105.trans (congrArg some (by kernel_rfl))⟩
  f29 := ⟨Tryz.f106.name, by decide, Tryz.func106.trans (congrArg some (by kernel_rfl))⟩
  f31 := Tryz.func111.trans (congrArg some (by kernel_rfl))
  f32 := Tryz.func112.trans (congrArg some (by kernel_rfl))
  f36 := ⟨Tryz.f110.name, by decide, Tryz.func110.trans (congrArg some (by kernel_rfl))⟩
  f37 := ⟨Tryz.f113.name, by decide, Tryz.func113.trans (congrArg some (by kernel_rfl))⟩
  f38 := ⟨Tryz.f114.name, by decide, Tryz.func114.trans (congrArg some (by kernel_rfl))⟩
  f39 := ⟨Tryz.f115.name, by decide, Tryz.func115.trans (congrArg some (by kernel_rfl))⟩
  f41 := ⟨Tryz.f116.name, by decide, Tryz.func116.trans (congrArg some (by kernel_rfl))⟩
  t0 := Tryz.underlying0
  a0 := Tryz.isAgg0
  z0 := Tryz.sizeOf0
  v0 := Tryz.zeroValue0
  t3 := Tryz.underlying3
  a3 := Tryz.isAgg3
  z3 := Tryz.sizeOf3
  v3 := Tryz.zeroValue3
  t4 := Tryz.underlying4
  a4 := Tryz.isAgg4
  z4 := Tryz.sizeOf4
  v4 := Tryz.zeroValue4
  t5 := Tryz.underlying5
  a5 := Tryz.isAgg5
  z5 := Tryz.sizeOf5
  v5 := Tryz.zeroValue5
  t9 := Tryz.underlying9
  a9 := Tryz.isAgg9
  z9 := Tryz.sizeOf9
  v9 := Tryz.zeroValue9
  t26 := Tryz.underlying118
  a26 := Tryz.isAgg118
  z26 := Tryz.sizeOf118
  v26 := Tryz.zeroValue118
  t27 := Tryz.underlying118
  a27 := Tryz.isAgg118
  z27 := Tryz.sizeOf118
  v27 := Tryz.zeroValue118
  t29 := Tryz.underlying9
  a29 := Tryz.isAgg9
  z29 := Tryz.sizeOf9
  v29 := Tryz.zeroValue9
  t32 := Tryz.underlying138
  a32 := Tryz.isAgg138
  z32 := Tryz.sizeOf138
  v32 := Tryz.zeroValue138
  t35 := Tryz.underlying142
  a35 := Tryz.isAgg142
  z35 := Tryz.sizeOf142
  v35 := Tryz.zeroValue142
  t36 := Tryz.underlying143
  a36 := Tryz.isAgg143
  z36 := Tryz.sizeOf143
  v36 := Tryz.zeroValue143
  t41 := Tryz.underlying69
  a41 := Tryz.isAgg69
  z41 := Tryz.sizeOf69
  v41 := Tryz.zeroValue69
  t44 := Tryz.underlying149
  a44 := Tryz.isAgg149
  z44 := Tryz.sizeOf149
  v44 := Tryz.zeroValue149
  t46 := Tryz.underlying151
  a46 := Tryz.isAgg151
  z46 := Tryz.sizeOf151
  v46 := Tryz.zeroValue151
  t53 := Tryz.underlying158
  a53 := Tryz.isAgg158
  z53 := Tryz.sizeOf158
  v53 := Tryz.zeroValue158
  t57 := Tryz.underlying57
  a57 := Tryz.isAgg57
  z57 := Tryz.sizeOf57
  v57 := Tryz.zeroValue57
  t63 := Tryz.underlying163
  a63 := Tryz.isAgg163
  z63 := Tryz.sizeOf163
  v63 := Tryz.zeroValue163
  t64 := Tryz.underlying164
  a64 := Tryz.isAgg164
  z64 := Tryz.sizeOf164
  v64 := Tryz.zeroValue164 }


theorem sortsL (m : Nat) : AnyZ.SortsIn Tryz.prog sortedL_ren Fence.wide m :=
  ⟨fun blk off cap ss W hH hblk hsz => callsIn_wide.2 (AnyM.slices_Sort_string sortL blk off cap ss W hH hblk hsz),
   fun p cap W => callsIn_wide.2 (AnyM.slices_Sort_string_none sortL p cap W)⟩

theorem keys_told (mb : Option Nat) (W : World) : Calls Tryz.prog 76 #[.map mb] W fun e w' => e = .returned (.func (.func 83) #[] #[.pointer (some ⟨W.heap.size, 0, none⟩)]) ∧ W.alloc (.cells #[.map mb] 55) = w' := by
  have h := AnyZ.keys_in keysL Fence.wide 5 trivial rfl mb W
  refine (callsIn_wide.1 (show CallsIn Fence.wide 5 Tryz.prog 76 #[.map mb] W fun e w' => e = .returned (.func (.func 83) #[] #[.pointer (some ⟨W.heap.size, 0, none⟩)]) ∧ w' = W.alloc (.cells #[.map mb] 55) from h)).mono ?_
  rintro e w' ⟨h1, h2⟩
  exact ⟨h1, h2.symm⟩
theorem sorted_told (mb : Nat) (E : List (Bs × Ent)) (w : World) (h : FsMap w mb E) (hl : E.length ≤ 1000000) : Calls Tryz.prog 75 #[.func (.func 83) #[] #[.pointer (some ⟨w.heap.size, 0, none⟩)]] (w.alloc (.cells #[.map (some mb)] 55)) fun e w' => ∃ v, e = .returned v ∧ w'.ownsRow w.heap.size 9 1 v E.length ((E.map (·.1)).map encStr) ∧ Below w.heap.size w w' := by
  have hbl := h.lt
  have hrise := map_rises h
  have hseq : SeqGives Fence.wide 2 Tryz.prog 83 #[.pointer (some ⟨w.heap.size, 0, none⟩)] encStr (fun ss => ss.Perm (strKeys (MD strL Ent.v E))) (Maps.size (MD strL Ent.v E)) (w.alloc (.cells #[.map (some mb)] 55)) :=
    AnyZ.keys_gives (ρ := keysL_ren) { keysL with } Fence.wide _ trivial rfl (by omega) w.heap.size mb E.length _ _ (by simp) (by simp) (by
      obtain ⟨es, clock, hb, Ft, hs, hD⟩ := h
      exact ⟨es, clock, (Below.heap_alloc _ _ mb hbl).trans hb, Ft, hs, hD⟩)
  have hmax : Maps.size (MD strL Ent.v E) ≤ maxLen := by rw [size_MD]; unfold maxLen; omega
  have hbytes : Maps.size (MD strL Ent.v E) * 16 ≤ 140737488355328 := by rw [size_MD]; omega
  have cS := AnyZ.sorted_in sortedL Fence.wide 5 trivial trivial trivial trivial rfl (by omega) (sortsL _) (enters_of Tryz.func82 (by kernel_rfl) rfl) 83 #[.pointer (some ⟨w.heap.size, 0, none⟩)] trivial (enters_of Tryz.func83 (by kernel_rfl) rfl) _ _ hmax hbytes _ hseq
  change CallsIn _ _ Tryz.prog 75 _ _ _ at cS
  refine (callsIn_wide.1 cS).mono ?_
  rintro e w' ⟨v, ss, h1, h2, h3, h4, h5⟩
  rw [strKeys_MD] at h2
  have h6 : ss.length = E.length := by rw [h2.length_eq, List.length_map]
  rw [sort_keys hrise h2, h6] at h3
  exact ⟨v, h1, ownsRow_base h3 (by simp), ((below_alloc w _).trans (h5.mono (by simp)))⟩
end Go.Proofs.YtglgjakjhkdoaaaGreatDoor

namespace Go.Proofs.YtglgjakjhkdoaaaGreatDoor
open Go.RowKit Go.Maps
set_option linter.unusedVariables false
set_option linter.unusedSimpArgs false

def fsFiles (s : FsS) : List (Bs × Bs) := s.files.map fun p => (p.1, s.get p.1)

structure FilesAt (B : Nat) (t : TypeId) (w : World) (v : Value) (L : List (Bs × Ent)) : Prop where
  row : w.ownsRow B t 2 v L.length (eflat L)
  ent : ∀ p ∈ L, EntOk w v.ownBlock.toList p.2
  ge : ∀ p ∈ L, ∀ k, p.2.v.ownBlock = some k → B ≤ k
theorem FilesAt.low {B : Nat} {t : TypeId} {w w' : World} {v : Value} {L : List (Bs × Ent)} (h : FilesAt B t w v L) (hb : Below w.heap.size w w') : FilesAt B t w' v L :=
  ⟨ownsRow_below h.row hb (Nat.le_refl _), fun p hp => (h.ent p hp).same (fun k hk => hb.block k ((h.ent p hp).far k hk).2) hb.size, h.ge⟩
theorem FilesAt.nil (B : Nat) (t : TypeId) (w : World) : FilesAt B t w (.slice none 0 0) [] := ⟨World.ownsRow_nil _ _ _ _, (fun p hp => by cases hp), (fun p hp => by cases hp)⟩
theorem FilesAt.base {B B' : Nat} {t : TypeId} {w : World} {v : Value} {L : List (Bs × Ent)} (h : FilesAt B t w v L) (hb : B' ≤ B) : FilesAt B' t w v L := ⟨ownsRow_base h.row hb, h.ent, fun p hp k hk => Nat.le_trans hb (h.ge p hp k hk)⟩
theorem FilesAt.add {B : Nat} {t : TypeId} {wr w1 W1 w2 : World} {v v' : Value} {L : List (Bs × Ent)} {k : Bs} {e : Ent} (h : FilesAt B t wr v L) (hb1 : Below wr.heap.size wr w1) (he : EntOk w1 v.ownBlock.toList e) (hge : ∀ j, e.v.ownBlock = some j → B ≤ j) (hW : Below w1.heap.size w1 W1)
    (hown : w2.ownsRow B t 2 v' (L.length + 1) (eflat L ++ [encStr k, e.v])) (hg : W1.grownBy w2 v.ownBlock) (hv : v'.ownBlock = v.ownBlock ∨ ∃ g, v'.ownBlock = some g ∧ W1.heap.size ≤ g) : FilesAt B t w2 v' (L ++ [(k, e)]) := by
  have hlt : ∀ j, v.ownBlock = some j → j < wr.heap.size := fun j hj => (h.row.lt j hj).2
  have hw1 := hb1.size
  have hW1 := hW.size
  have hw2 := hg.size
  have ents : ∀ p ∈ L ++ [(k, e)], EntOk w1 v.ownBlock.toList p.2 := fun p hp => by
    rcases List.mem_append.1 hp with hp | hp
    · exact (h.ent p hp).same (fun j hj => hb1.block j ((h.ent p hp).far j hj).2) hb1.size
    · simp only [List.mem_singleton] at hp
      subst hp
      exact he
  refine ⟨?_, fun p hp => ?_, fun p hp j hj => ?_⟩
  · have e2 : eflat (L ++ [(k, e)]) = eflat L ++ [encStr k, e.v] := by rw [eflat_append]; rfl
    rw [e2, List.length_append]
    exact hown
  · have g1 := ents p hp
    have g2 := g1.same (w' := w2) (fun j hj => by
      have h1 := g1.far j hj
      rw [hg.block j (by omega) (fun e => h1.1 (by simp [Option.mem_toList, e])), hW.block j h1.2]) (by omega)
    refine ⟨g2.rd, g2.n, g2.le, g2.cap, fun j hj => ⟨fun hm => ?_, (g2.far j hj).2⟩⟩
    have h1 := g1.far j hj
    rw [Option.mem_toList] at hm h1
    rcases hv with e | ⟨g, e, hge⟩
    · rw [e] at hm
      exact h1.1 hm
    · rw [e] at hm
      simp only [Option.mem_def, Option.some.injEq] at hm
      omega
  · rcases List.mem_append.1 hp with hp | hp
    · exact h.ge p hp j hj
    · simp only [List.mem_singleton] at hp
      subst hp
      exact hge j hj

def FilesTold (t : TypeId) (X : List (Bs × Bs)) (w : World) (e : Ending) (w' : World) : Prop := ∃ a c L, e = .returned (.slice a X.length c) ∧ FilesAt w.heap.size t w' (.slice a X.length c) L ∧ L.map ct = X ∧ Below w.heap.size w w'

theorem slice_of_row {w : World} {B t n : Nat} {v : Value} {xs : List Value} (h : w.ownsRow B t 2 v n xs) : ∃ a c, v = .slice a n c := by
  rcases h.2 with ⟨h1, h2⟩ | ⟨g, cap, cur, h1, _⟩
  · exact ⟨none, 0, by rw [h1, h2]⟩
  · exact ⟨_, _, h1⟩
theorem slice_of_row1 {w : World} {B t n : Nat} {v : Value} {xs : List Value} (h : w.ownsRow B t 1 v n xs) : ∃ a c, v = .slice a n c := by
  rcases h.2 with ⟨h1, h2⟩ | ⟨g, cap, cur, h1, _⟩
  · exact ⟨none, 0, by rw [h1, h2]⟩
  · exact ⟨_, _, h1⟩
theorem mget_isSome_of_mem {κ ν : Type} [DecidableEq κ] {E : List (κ × ν)} {p : κ × ν} (h : p ∈ E) : (mget p.1 E).isSome = true := by
  unfold mget
  rw [Option.isSome_map, List.find?_isSome]
  exact ⟨p, h, by simp⟩
theorem names_short {s : FsS} (ok : s.Ok) {k : Bs} (h : s.has k = true) : k.length ≤ 16 := by
  have := has_named ok h
  unfold named at this
  simp only [Bool.and_eq_true, decide_eq_true_eq] at this
  exact this.2

theorem hadd_of {t : TypeId} {w2 wr w3 : World} {oa ra : Option Addr} {i oc rn rc : Nat} {L' : List (Bs × Ent)} {nm b : Bs} {X : List (Bs × Bs)} (hfr : Fresh wr w3 ra rn rc b) (hL1 : FilesAt w2.heap.size t wr (.slice oa i oc) L') (hL2 : L'.map ct = X.take i) (hL3 : L'.length = i)
    (hat : X.take (i + 1) = X.take i ++ [(nm, b)]) (hbw : Below w2.heap.size w2 wr) (hs2 : w2.heap.size ≤ wr.heap.size) : ∀ (cs : Array Value) w5 v, w5.ownsRow w2.heap.size t 2 v (i + 1) (eflat L' ++ [.string ⟨nm.toArray⟩, .slice ra rn rc]) → (w3.alloc (.cells cs t)).grownBy w5 (Value.slice oa i oc).ownBlock → (v.ownBlock = (Value.slice oa i oc).ownBlock ∨ v.ownBlock = some (w3.alloc (.cells cs t)).heap.size) →
      (∃ L'', FilesAt w2.heap.size t w5 v L'' ∧ L''.map ct = X.take (i + 1) ∧ L''.length = i + 1) ∧ Below w2.heap.size w2 w5 := fun cs w5 v hown hgr hv => by
  have hlt : ∀ k ∈ (Value.slice oa i oc).ownBlock.toList, k < wr.heap.size := fun k hk => (hL1.row.lt k (by simpa [Option.mem_toList] using hk)).2
  rw [← hL3] at hown
  have hs3 := hfr.2.2.size
  refine ⟨⟨L' ++ [(nm, ⟨b, ra, rn, rc⟩)], hL1.add (e := ⟨b, ra, rn, rc⟩) hfr.2.2 (hfr.ent hlt) (fun j (hj : (Value.slice ra rn rc).ownBlock = some j) => Nat.le_trans hs2 (hfr.ge j hj).1) (below_alloc w3 _) hown hgr (hv.imp id fun e => ⟨_, e, Nat.le_refl _⟩), ?_, by simp [hL3]⟩, ?_⟩
  · rw [List.map_append, hL2, hat]
    rfl
  · refine (hbw.trans ((hfr.2.2.mono hs2).trans ((below_alloc w3 _).mono (by omega)))).grown hgr (by simp; omega) fun k hk => (hL1.row.lt k hk).1

set_option maxRecDepth 100000 in
set_option maxHeartbeats 1600000 in
theorem fs_Files (sb : Nat) (s : FsS) (F : List Nat) (w : World) (h : FsRep w sb s F) (ok : s.Ok) :
    Calls Tryz.prog 63 #[.pointer (some ⟨sb, 0, none⟩)] w (FilesTold 68 (fsFiles s) w) := by
  have H := hide h
  have OK := hide ok
  have HLT := hide h.lt
  obtain ⟨mb, wv, lp, E, L, hi, rfl⟩ := h
  obtain ⟨c0, c1, c2, c3, c4, fz⟩ := fs_cells hi.blk
  have hsb := (Array.getElem?_eq_some_iff.1 hi.blk).1
  have hE1 : E.length ≤ 8 := by
    have h3 := files_len hi
    have := ok.few
    omega
  have hm := hide hi.map
  have hks : Hid (s.files.map (·.1) = E.map (·.1)) := hide (by rw [hi.files, List.map_map]; rfl)
  have hfl : Hid ((fsFiles s).length = E.length) := hide (by unfold fsFiles; rw [List.length_map, hi.files, List.length_map])
  clear c0 c2 c3 c4 fz hi ok
  go_enter Tryz.func63, Tryz.ntmps63
  go_wp2_with (first
    | (go_at_call 76; refine (keys_told (some mb) _).mono ?_; rintro e w' ⟨rfl, rfl⟩)
    | (go_at_call 75; refine (sorted_told mb E _ hm.out (by omega)).mono ?_; rintro e w2 ⟨v, rfl, hrow, hb⟩; obtain ⟨na, nc, rfl⟩ := slice_of_row1 hrow; have HROW := hide hrow; have HB := hide hb; clear hrow hb c1; have hw2 := HB.out.size))
  obtain ⟨iF, hiF, hyF0, hyF1, hyF2⟩ := info_parts file_info
  go_loopw [3, 5, 6, 7, 15] (fun ov _ _ _ iv wr => ∃ (i : Nat) (oa : Option Addr) (oc : Nat), ov = .slice oa i oc ∧ iv = .int .i64 i ∧ i ≤ E.length ∧ Hid (∃ L', FilesAt w2.heap.size 68 wr (.slice oa i oc) L' ∧ L'.map ct = (fsFiles s).take i ∧ L'.length = i) ∧ Hid (Below w2.heap.size w2 wr)) (fun _ _ _ _ iv _ => match iv with | .int _ j => E.length - j.toNat | _ => 0)
  case atStart => exact ⟨0, none, 0, rfl, rfl, Nat.zero_le _, hide ⟨[], FilesAt.nil _ _ _, rfl, rfl⟩, hide (Below.refl _ _)⟩
  case round =>
    obtain ⟨i, oa, oc, rfl, rfl, hi, hrel, hbw⟩ := hrel
    by_cases hin : i < E.length
    · have i0 : (i : Int) < E.length := by omega
      have hsl : i < s.files.length := by have := hfl.out; unfold fsFiles at this; rw [List.length_map] at this; omega
      obtain ⟨nm, hnm⟩ : ∃ nm, nm = s.files[i].1 := ⟨_, rfl⟩
      have hat : Hid ((fsFiles s).take (i + 1) = (fsFiles s).take i ++ [(nm, s.get nm)]) := hide (by
        have h1 : i < (fsFiles s).length := by rw [hfl.out]; exact hin
        rw [List.take_add_one, List.getElem?_eq_getElem h1, hnm]
        simp only [fsFiles, List.getElem_map]
        rfl)
      have hhas : s.has nm = true := by
        rw [hnm]
        exact mget_isSome_of_mem (List.getElem_mem hsl)
      have hnl : nm.length ≤ maxLen := by have := names_short OK.out hhas; unfold maxLen; omega
      have hrowr := ownsRow_below HROW.out hbw.out (Nat.le_refl _)
      obtain ⟨g, rfl⟩ : ∃ g, na = some ⟨g, 0, none⟩ := by
        rcases hrowr.2 with ⟨h1, h2⟩ | ⟨g, cap, cur, h1, _⟩
        · omega
        · simp only [Value.slice.injEq] at h1
          exact ⟨g, h1.1⟩
      have hc := hrowr.cellAt i (by omega)
      have hki : ((E.map (·.1)).map encStr)[i]? = some (.string ⟨nm.toArray⟩) := by
        have h1 : (s.files.map (·.1))[i]? = some nm := by rw [List.getElem?_map, List.getElem?_eq_getElem hsl, hnm]; rfl
        rw [hks.out] at h1
        rw [List.getElem?_map, h1]
        rfl
      rw [hki] at hc
      have hfz := hrowr.frozenAt i
      have HH := hide hhas; have HNM := hide hnm
      clear hrowr hki hnm
      go_wp2_with fail
      refine (fs_Read sb s _ nm hnl wr ((H.out.low HB.out).same (fun k hk => hbw.out.block k (by have := HLT.out k hk; omega)) hbw.out.size) OK.out).mono ?_
      rintro e w3 hr
      unfold ReadTold at hr
      rw [HH.out, if_pos rfl] at hr
      obtain ⟨ra, rn, rc, rfl, hfr⟩ := hr
      obtain ⟨L', hL1, hL2, hL3⟩ := hrel.out
      have HFR := hide hfr
      have HL1 := hide hL1; have HL2 := hide hL2; have HL3 := hide hL3
      have hrow4 : Hid (∀ o, (w3.alloc o).ownsRow w2.heap.size 68 2 (.slice oa i oc) i (eflat L')) := hide fun o => by
        have h1 := hL1.row
        rw [hL3] at h1
        exact ownsRow_below (ownsRow_below h1 hfr.2.2 (Nat.le_refl _)) (below_alloc w3 o) (Nat.le_refl _)
      have hs3 := hfr.2.2.size
      have hs2 := hbw.out.size
      have hwi : IntKind.i64.wrap ((i : Int) + 1) = (i : Int) + 1 := wrap64 (by omega) (by omega)
      have hadd := hide (hadd_of hfr hL1 hL2 hL3 hat.out hbw.out hs2)
      clear hrel hfr hL1 hL2 hL3 hc hfz
      go_wp2_with (at_builtin; refine wpList_append_rd rfl (.tmp 25) (.tmp 29) 56 rfl w2.heap.size 68 iF (.agg #[.string ⟨#[]⟩, .slice none 0 0]) 2 40 Tryz.underlying56 hiF hyF0 hyF1 hyF2 rfl (by decide) (.slice oa i oc) i (eflat L') rfl (hrow4.out _) _ 1 [.string ⟨nm.toArray⟩, .slice ra rn rc] rfl (rd_new _ _ _ 1 2 (by simp) (by simp)) (by simp [Value.oneCell']) (by unfold maxLen; omega) (by omega) (by simp; omega) ?_; intro v1 w5 hown hgr hnil hv; obtain ⟨oa1, oc1, rfl⟩ := slice_of_row hown; have HADD := hide (hadd.out _ w5 (.slice oa1 (i + 1) oc1) hown hgr hv); clear hown hgr hnil hv)
      refine ⟨⟨i + 1, oa1, oc1, rfl, by simp, hin, hide HADD.out.1, hide HADD.out.2⟩, ?_⟩
      show E.length - ((i : Int) + 1).toNat < E.length - ((i : Nat) : Int).toNat
      omega
    · obtain rfl : i = E.length := by omega
      have hend : FilesTold 68 (fsFiles s) w (.returned (.slice oa E.length oc)) wr := by
        obtain ⟨L', hL1, hL2, hL3⟩ := hrel.out
        rw [← hfl.out, List.take_length] at hL2
        refine ⟨oa, oc, L', by rw [hfl.out], ?_, hL2, HB.out.trans (hbw.out.mono hw2)⟩
        rw [hfl.out]
        exact hL1.base hw2
      have HE := hide hend
      clear hend hrel
      go_wp2
      go_ret
      exact HE.out
end Go.Proofs.YtglgjakjhkdoaaaGreatDoor
