/-
  The laws' plays: a call on a file system.
-/
import Derived.Test.YtnlmoegdienhiaaFsY
namespace Go.Proofs.Ytnlmoegdienhiaa
open Go.RowKit Go.Maps
set_option linter.unusedVariables false
set_option linter.unusedSimpArgs false

def fsPlay (s : FsS) (o : Opr) : Int × FsS :=
  if o.kind % 14 = 0 then fsCreate s o.name else if o.kind % 14 = 6 ∨ o.kind % 14 = 7 then fsSync s o.name else if o.kind % 14 = 8 then fsCut s o.name o.num
  else if o.kind % 14 = 9 then fsRename s o.name o.other else if o.kind % 14 = 10 then fsRemove s o.name else fsAppend s o.name o.b
theorem fsPlay_ok {s : FsS} (h : s.Ok) (o : Opr) : (fsPlay s o).2.Ok := by
  unfold fsPlay
  repeat' split
  · exact fsCreate_ok h _
  · exact fsSync_ok h _
  · exact fsCut_ok h _ _
  · exact fsRename_ok h _ _
  · exact fsRemove_ok h _
  · exact fsAppend_ok h _ _

set_option maxRecDepth 100000 in
set_option maxHeartbeats 3200000 in
theorem fs_plays (sb : Nat) (s : FsS) (F : List Nat) (o : Opr) (w : World) (h : FsRep w sb s F) (ok : s.Ok) (hok : o.Ok w) (hl : o.bn ≤ 300) (hfar : 0 < o.bn → ∀ k, (Value.slice o.ba o.bn o.bc).ownBlock = some k → k ∉ F) :
    Calls Try.prog 24 #[.pointer (some ⟨sb, 0, none⟩), .agg #[.int .u8 o.kind, .string ⟨o.name.toArray⟩, .string ⟨o.other.toArray⟩, .slice o.ba o.bn o.bc, .int .i64 o.num, .slice o.ka o.kn o.kc, .int .i64 o.t]] w fun e w' => e = .returned (.int .u16 (fsPlay s o).1) ∧ FsTo w sb F (fsPlay s o).2 w' := by
  obtain ⟨W1, hW1⟩ : ∃ W1, W1 = w.alloc (.cells #[.int .u8 o.kind, .string ⟨o.name.toArray⟩, .string ⟨o.other.toArray⟩, .slice o.ba o.bn o.bc, .int .i64 o.num, .slice o.ka o.kn o.kc, .int .i64 o.t] 44) := ⟨_, rfl⟩
  have hb := below_alloc w (.cells #[.int .u8 o.kind, .string ⟨o.name.toArray⟩, .string ⟨o.other.toArray⟩, .slice o.ba o.bn o.bc, .int .i64 o.num, .slice o.ka o.kn o.kc, .int .i64 o.t] 44)
  have hg := heap_alloc_at w (.cells #[.int .u8 o.kind, .string ⟨o.name.toArray⟩, .string ⟨o.other.toArray⟩, .slice o.ba o.bn o.bc, .int .i64 o.num, .slice o.ka o.kn o.kc, .int .i64 o.t] 44)
  rw [← hW1] at hb hg
  have H := hide (h.low hb)
  have OKS := hide ok
  have OKO := hide (hok.low hb)
  have HFAR := hide hfar
  have HTO : Hid (∀ s' w', FsTo W1 sb F s' w' → FsTo w sb F s' w') := hide fun s' w' h => by
    obtain ⟨F', h1, h2⟩ := h
    exact ⟨F', h1, (Chg.of_below hb).trans h2⟩
  have f0 : W1.cell? ⟨w.heap.size, 0, none⟩ = some (.int .u8 o.kind) := by simp [World.cell?, hg]
  have f1 : W1.cell? ⟨w.heap.size, 1, none⟩ = some (.string ⟨o.name.toArray⟩) := by simp [World.cell?, hg]
  have f2 : W1.cell? ⟨w.heap.size, 2, none⟩ = some (.string ⟨o.other.toArray⟩) := by simp [World.cell?, hg]
  have f3 : W1.cell? ⟨w.heap.size, 3, none⟩ = some (.slice o.ba o.bn o.bc) := by simp [World.cell?, hg]
  have f4 : W1.cell? ⟨w.heap.size, 4, none⟩ = some (.int .i64 o.num) := by simp [World.cell?, hg]
  have hw1 := hide hW1
  have hmod : (o.kind : Int).tmod 14 = ((o.kind % 14 : Nat) : Int) := by
    rw [Int.tmod_eq_emod_of_nonneg (by omega)]
    omega
  obtain ⟨m, hm⟩ : ∃ m, m = o.kind % 14 := ⟨_, rfl⟩
  have hm14 : m < 14 := by omega
  rw [← hm] at hmod
  have HM := hide hm
  clear h ok hok hfar hb hg hm
  by_cases c0 : m = 0
  · have e : fsPlay s o = fsCreate s o.name := by unfold fsPlay; rw [← HM.out]; rw [if_pos c0]
    rw [e]
    clear e
    subst c0
    go_enter Try.func24, Try.ntmps24
    go_upto_region 1 with fail
    rw [← hw1.out]
    clear hW1
    go_wp2_with fail
    refine (fs_Create sb s F o.name OKO.out.name W1 H.out OKS.out).mono ?_
    rintro e w' ⟨rfl, ht⟩
    have HT := hide (HTO.out _ _ ht)
    clear ht
    go_wp2
    go_ret
    exact ⟨rfl, HT.out⟩
  by_cases c1 : m = 6
  · have e : fsPlay s o = fsSync s o.name := by unfold fsPlay; rw [← HM.out]; rw [if_neg (by omega), if_pos (by omega)]
    rw [e]
    clear e
    subst c1
    go_enter Try.func24, Try.ntmps24
    go_upto_region 1 with fail
    rw [← hw1.out]
    clear hW1
    go_wp2_with fail
    refine (fs_Sync sb s F o.name OKO.out.name W1 H.out OKS.out).mono ?_
    rintro e w' ⟨rfl, ht⟩
    have HT := hide (HTO.out _ _ ht)
    clear ht
    go_wp2
    go_ret
    exact ⟨rfl, HT.out⟩
  by_cases c2 : m = 7
  · have e : fsPlay s o = fsSync s o.name := by unfold fsPlay; rw [← HM.out]; rw [if_neg (by omega), if_pos (by omega)]
    rw [e]
    clear e
    subst c2
    go_enter Try.func24, Try.ntmps24
    go_upto_region 1 with fail
    rw [← hw1.out]
    clear hW1
    go_wp2_with fail
    refine (fs_Sync sb s F o.name OKO.out.name W1 H.out OKS.out).mono ?_
    rintro e w' ⟨rfl, ht⟩
    have HT := hide (HTO.out _ _ ht)
    clear ht
    go_wp2
    go_ret
    exact ⟨rfl, HT.out⟩
  by_cases c3 : m = 8
  · have e : fsPlay s o = fsCut s o.name o.num := by unfold fsPlay; rw [← HM.out]; rw [if_neg (by omega), if_neg (by omega), if_pos (by omega)]
    rw [e]
    clear e
    subst c3
    go_enter Try.func24, Try.ntmps24
    go_upto_region 1 with fail
    rw [← hw1.out]
    clear hW1
    go_wp2_with fail
    refine (fs_Cut sb s F o.name OKO.out.name o.num W1 H.out OKS.out).mono ?_
    rintro e w' ⟨rfl, ht⟩
    have HT := hide (HTO.out _ _ ht)
    clear ht
    go_wp2
    go_ret
    exact ⟨rfl, HT.out⟩
  by_cases c4 : m = 9
  · have e : fsPlay s o = fsRename s o.name o.other := by unfold fsPlay; rw [← HM.out]; rw [if_neg (by omega), if_neg (by omega), if_neg (by omega), if_pos (by omega)]
    rw [e]
    clear e
    subst c4
    go_enter Try.func24, Try.ntmps24
    go_upto_region 1 with fail
    rw [← hw1.out]
    clear hW1
    go_wp2_with fail
    refine (fs_Rename sb s F o.name o.other OKO.out.name OKO.out.other W1 H.out OKS.out).mono ?_
    rintro e w' ⟨rfl, ht⟩
    have HT := hide (HTO.out _ _ ht)
    clear ht
    go_wp2
    go_ret
    exact ⟨rfl, HT.out⟩
  by_cases c5 : m = 10
  · have e : fsPlay s o = fsRemove s o.name := by unfold fsPlay; rw [← HM.out]; rw [if_neg (by omega), if_neg (by omega), if_neg (by omega), if_neg (by omega), if_pos (by omega)]
    rw [e]
    clear e
    subst c5
    go_enter Try.func24, Try.ntmps24
    go_upto_region 1 with fail
    rw [← hw1.out]
    clear hW1
    go_wp2_with fail
    refine (fs_Remove sb s F o.name OKO.out.name W1 H.out OKS.out).mono ?_
    rintro e w' ⟨rfl, ht⟩
    have HT := hide (HTO.out _ _ ht)
    clear ht
    go_wp2
    go_ret
    exact ⟨rfl, HT.out⟩
  have e : fsPlay s o = fsAppend s o.name o.b := by unfold fsPlay; rw [← HM.out]; rw [if_neg (by omega), if_neg (by omega), if_neg (by omega), if_neg (by omega), if_neg (by omega)]
  rw [e]
  clear e
  have d0 : ¬ ((m : Int) = 0) := by omega
  have d1 : ¬ ((m : Int) = 6) := by omega
  have d2 : ¬ ((m : Int) = 7) := by omega
  have d3 : ¬ ((m : Int) = 8) := by omega
  have d4 : ¬ ((m : Int) = 9) := by omega
  have d5 : ¬ ((m : Int) = 10) := by omega
  have e0 : ((m : Int) == 0) = false := by simpa using d0
  have e1 : ((m : Int) == 6) = false := by simpa using d1
  have e2 : ((m : Int) == 7) = false := by simpa using d2
  have e3 : ((m : Int) == 8) = false := by simpa using d3
  have e4 : ((m : Int) == 9) = false := by simpa using d4
  have e5 : ((m : Int) == 10) = false := by simpa using d5
  clear c0 c1 c2 c3 c4 c5 d0
  go_enter Try.func24, Try.ntmps24
  go_upto_region 1 with fail
  rw [← hw1.out]
  clear hW1
  go_wp2_with fail
  refine (fs_Append sb s F o.name OKO.out.name o.ba o.bn o.bc o.b W1 H.out OKS.out OKO.out.rb OKO.out.bn (by omega) HFAR.out).mono ?_
  rintro e w' ⟨rfl, ht⟩
  have HT := hide (HTO.out _ _ ht)
  clear ht
  go_wp2
  go_ret
  exact ⟨rfl, HT.out⟩
end Go.Proofs.Ytnlmoegdienhiaa
