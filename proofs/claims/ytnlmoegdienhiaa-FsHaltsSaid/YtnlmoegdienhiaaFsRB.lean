/-
  A file system that is halted, and one that is not: as plain data.
-/
import Derived.Test.YtnlmoegdienhiaaFsRA
namespace Go.Proofs.Ytnlmoegdienhiaa
open Go.RowKit Go.Maps
set_option linter.unusedVariables false
set_option linter.unusedSimpArgs false

/-- the same without a halt -/
def FsS.free (s : FsS) : FsS := { s with left := none, halted := false }
theorem free_go (s : FsS) : s.free.go = true := by simp [FsS.free, FsS.go]
theorem free_went (s : FsS) : s.free.went = s.free := rfl
theorem free_has (s : FsS) (k : Bs) : s.free.has k = s.has k := rfl
theorem free_get (s : FsS) (k : Bs) : s.free.get k = s.get k := rfl
theorem free_used (s : FsS) : s.free.used = s.used := rfl
/-- a call that goes on: what it does to a file system with a halt, by what it does to one without -/
structure Goes (f : FsS → Int × FsS) (u : Bool) (s : FsS) : Prop where
  err : (f s).1 = (f s.free).1
  on : (f s).1 = 0 ∧ u = true → (f s).2 = if s.go then { s.went with files := (f s.free).2.files, waits := (f s.free).2.waits } else s.went
  off : ¬ ((f s).1 = 0 ∧ u = true) → (f s).2 = s
theorem went_same (s : FsS) : ({ s.went with files := s.files, waits := s.waits } : FsS) = s.went := by
  obtain ⟨h1, h2, h3⟩ := went_parts s
  rw [← h2, ← h3]
theorem went_files (s : FsS) (F : List (Bs × Bs)) : ({ s.went with files := F, waits := s.waits } : FsS) = { s.went with files := F } := by
  rw [← (went_parts s).2.2]
theorem went_waits (s : FsS) (L : List (Bs × Bs)) : ({ s.went with files := s.files, waits := L } : FsS) = { s.went with waits := L } := by
  rw [← (went_parts s).2.1]
theorem goes_create (s : FsS) (k : Bs) : Goes (fun s => fsCreate s k) true s := by
  by_cases h1 : named k = false
  · have e : ∀ s, fsCreate s k = (1, s) := fun s => by unfold fsCreate; rw [if_pos h1]
    exact ⟨by simp only [e], fun h => by simp [e] at h, fun h => by simp only [e]⟩
  by_cases h2 : s.has k = true
  · have e : ∀ t : FsS, t.has k = s.has k → fsCreate t k = (81, t) := fun t ht => by unfold fsCreate; rw [if_neg h1, if_pos (ht.trans h2)]
    exact ⟨by simp only [e s rfl, e s.free rfl], fun h => by simp [e s rfl] at h, fun h => by simp only [e s rfl]⟩
  by_cases h3 : 8 ≤ s.files.length
  · have e : ∀ t : FsS, t.has k = s.has k → t.files = s.files → fsCreate t k = (3, t) := fun t ht hf => by unfold fsCreate; rw [if_neg h1, if_neg (by rw [ht]; exact h2), if_pos (by rw [hf]; exact h3)]
    exact ⟨by simp only [e s rfl rfl, e s.free rfl rfl], fun h => by simp [e s rfl rfl] at h, fun h => by simp only [e s rfl rfl]⟩
  have e : ∀ t : FsS, t.has k = s.has k → t.files = s.files → fsCreate t k = (0, if t.go then { t.went with files := mput strL k [] t.files } else t.went) := fun t ht hf => by
    unfold fsCreate; rw [if_neg h1, if_neg (by rw [ht]; exact h2), if_neg (by rw [hf]; exact h3)]
  refine ⟨by simp only [e s rfl rfl, e s.free rfl rfl], fun _ => ?_, fun h => absurd ⟨by simp only [e s rfl rfl], rfl⟩ h⟩
  simp only [e s rfl rfl, e s.free rfl rfl, free_go, if_true, free_went]
  show _ = if s.go = true then { s.went with files := mput strL k [] s.files, waits := s.waits } else s.went
  rw [went_files]
theorem goes_append (s : FsS) (k b : Bs) : Goes (fun s => fsAppend s k b) (decide (0 < b.length)) s := by
  by_cases h1 : s.has k = false
  · have e : ∀ t : FsS, t.has k = s.has k → fsAppend t k b = (80, t) := fun t ht => by unfold fsAppend; rw [if_pos (ht.trans h1)]
    exact ⟨by simp only [e s rfl, e s.free rfl], fun h => by simp [e s rfl] at h, fun h => by simp only [e s rfl]⟩
  by_cases h2 : b.length = 0
  · have e : ∀ t : FsS, t.has k = s.has k → fsAppend t k b = (0, t) := fun t ht => by unfold fsAppend; rw [if_neg (by rw [ht]; exact h1), if_pos h2]
    exact ⟨by simp only [e s rfl, e s.free rfl], fun h => by simp [h2] at h, fun h => by simp only [e s rfl]⟩
  by_cases h3 : s.room - s.used < b.length
  · have e : ∀ t : FsS, t.has k = s.has k → t.room = s.room → t.used = s.used → fsAppend t k b = (82, t) := fun t ht hr hu => by unfold fsAppend; rw [if_neg (by rw [ht]; exact h1), if_neg h2, if_pos (by rw [hr, hu]; exact h3)]
    exact ⟨by simp only [e s rfl rfl rfl, e s.free rfl rfl rfl], fun h => by simp [e s rfl rfl rfl] at h, fun h => by simp only [e s rfl rfl rfl]⟩
  have e : ∀ t : FsS, t.has k = s.has k → t.room = s.room → t.used = s.used → fsAppend t k b = (0, if t.go then { t.went with waits := t.waits ++ [(k, b)] } else t.went) := fun t ht hr hu => by
    unfold fsAppend; rw [if_neg (by rw [ht]; exact h1), if_neg h2, if_neg (by rw [hr, hu]; exact h3)]
  refine ⟨by simp only [e s rfl rfl rfl, e s.free rfl rfl rfl], fun _ => ?_, fun h => absurd ⟨by simp only [e s rfl rfl rfl], by simp; omega⟩ h⟩
  simp only [e s rfl rfl rfl, e s.free rfl rfl rfl, free_go, if_true, free_went]
  show _ = if s.go = true then { s.went with files := s.files, waits := s.waits ++ [(k, b)] } else s.went
  rw [went_waits]
theorem goes_sync (s : FsS) (k : Bs) : Goes (fun s => fsSync s k) true s := by
  by_cases h1 : s.has k = false
  · have e : ∀ t : FsS, t.has k = s.has k → fsSync t k = (80, t) := fun t ht => by unfold fsSync; rw [if_pos (ht.trans h1)]
    exact ⟨by simp only [e s rfl, e s.free rfl], fun h => by simp [e s rfl] at h, fun h => by simp only [e s rfl]⟩
  have e : ∀ t : FsS, t.has k = s.has k → fsSync t k = (0, if t.go then { t.went with files := mput strL k (t.get k) t.files, waits := forgotten k t.waits } else t.went) := fun t ht => by
    unfold fsSync; rw [if_neg (by rw [ht]; exact h1)]
  refine ⟨by simp only [e s rfl, e s.free rfl], fun _ => ?_, fun h => absurd ⟨by simp only [e s rfl], rfl⟩ h⟩
  simp only [e s rfl, e s.free rfl, free_go, if_true, free_went]
  rfl
theorem goes_cut (s : FsS) (k : Bs) (n : Int) : Goes (fun s => fsCut s k n) true s := by
  by_cases h1 : s.has k = false
  · have e : ∀ t : FsS, t.has k = s.has k → fsCut t k n = (80, t) := fun t ht => by unfold fsCut; rw [if_pos (ht.trans h1)]
    exact ⟨by simp only [e s rfl, e s.free rfl], fun h => by simp [e s rfl] at h, fun h => by simp only [e s rfl]⟩
  by_cases h2 : n < 0 ∨ (s.get k).length < n
  · have e : ∀ t : FsS, t.has k = s.has k → t.get k = s.get k → fsCut t k n = (1, t) := fun t ht hg => by unfold fsCut; rw [if_neg (by rw [ht]; exact h1), if_pos (by rw [hg]; exact h2)]
    exact ⟨by simp only [e s rfl rfl, e s.free rfl rfl], fun h => by simp [e s rfl rfl] at h, fun h => by simp only [e s rfl rfl]⟩
  have e : ∀ t : FsS, t.has k = s.has k → t.get k = s.get k → fsCut t k n = (0, if t.go then { t.went with files := mput strL k ((t.get k).take n.toNat) t.files, waits := forgotten k t.waits } else t.went) := fun t ht hg => by
    unfold fsCut; rw [if_neg (by rw [ht]; exact h1), if_neg (by rw [hg]; exact h2)]
  refine ⟨by simp only [e s rfl rfl, e s.free rfl rfl], fun _ => ?_, fun h => absurd ⟨by simp only [e s rfl rfl], rfl⟩ h⟩
  simp only [e s rfl rfl, e s.free rfl rfl, free_go, if_true, free_went]
  rfl
theorem goes_remove (s : FsS) (k : Bs) : Goes (fun s => fsRemove s k) true s := by
  by_cases h1 : s.has k = false
  · have e : ∀ t : FsS, t.has k = s.has k → fsRemove t k = (80, t) := fun t ht => by unfold fsRemove; rw [if_pos (ht.trans h1)]
    exact ⟨by simp only [e s rfl, e s.free rfl], fun h => by simp [e s rfl] at h, fun h => by simp only [e s rfl]⟩
  have e : ∀ t : FsS, t.has k = s.has k → fsRemove t k = (0, if t.go then { t.went with files := mdel k t.files, waits := forgotten k t.waits } else t.went) := fun t ht => by
    unfold fsRemove; rw [if_neg (by rw [ht]; exact h1)]
  refine ⟨by simp only [e s rfl, e s.free rfl], fun _ => ?_, fun h => absurd ⟨by simp only [e s rfl], rfl⟩ h⟩
  simp only [e s rfl, e s.free rfl, free_go, if_true, free_went]
  rfl
theorem goes_rename (s : FsS) (a b : Bs) : Goes (fun s => fsRename s a b) (decide (a ≠ b)) s := by
  by_cases h1 : s.has a = false
  · have e : ∀ t : FsS, t.has a = s.has a → fsRename t a b = (80, t) := fun t ht => by unfold fsRename; rw [if_pos (ht.trans h1)]
    exact ⟨by simp only [e s rfl, e s.free rfl], fun h => by simp [e s rfl] at h, fun h => by simp only [e s rfl]⟩
  by_cases h2 : named b = false
  · have e : ∀ t : FsS, t.has a = s.has a → fsRename t a b = (1, t) := fun t ht => by unfold fsRename; rw [if_neg (by rw [ht]; exact h1), if_pos h2]
    exact ⟨by simp only [e s rfl, e s.free rfl], fun h => by simp [e s rfl] at h, fun h => by simp only [e s rfl]⟩
  by_cases h3 : a = b
  · have e : ∀ t : FsS, t.has a = s.has a → fsRename t a b = (0, t) := fun t ht => by unfold fsRename; rw [if_neg (by rw [ht]; exact h1), if_neg h2, if_pos h3]
    exact ⟨by simp only [e s rfl, e s.free rfl], fun h => by simp [h3] at h, fun h => by simp only [e s rfl]⟩
  have e : ∀ t : FsS, t.has a = s.has a → fsRename t a b = (0, if t.go then { t.went with files := mdel a (mput strL b ((mget a t.files).getD []) t.files), waits := (forgotten b t.waits).map fun p => if p.1 = a then (b, p.2) else p } else t.went) := fun t ht => by
    unfold fsRename; rw [if_neg (by rw [ht]; exact h1), if_neg h2, if_neg h3]
  refine ⟨by simp only [e s rfl, e s.free rfl], fun _ => ?_, fun h => absurd ⟨by simp only [e s rfl], by simpa using h3⟩ h⟩
  simp only [e s rfl, e s.free rfl, free_go, if_true, free_went]
  rfl

/-- does the law count the call? -/
def usedO (o : Opr) : Bool := if o.kind % 14 = 9 then decide (o.name ≠ o.other) else if o.kind % 14 = 0 ∨ 5 < o.kind % 14 then true else decide (0 < o.b.length)
theorem goes_play (s : FsS) (o : Opr) (h10 : o.kind % 14 ≤ 10) : Goes (fun s => fsPlay s o) (usedO o) s := by
  have key : ∀ (f : FsS → Int × FsS) (u : Bool), (∀ s, fsPlay s o = f s) → usedO o = u → Goes f u s → Goes (fun s => fsPlay s o) (usedO o) s := fun f u h1 h2 h3 => by
    rw [h2, show (fun s => fsPlay s o) = f from funext h1]
    exact h3
  by_cases c0 : o.kind % 14 = 0
  · exact key _ _ (fun s => by unfold fsPlay; rw [if_pos c0]) (by unfold usedO; rw [if_neg (by omega), if_pos (.inl c0)]) (goes_create s o.name)
  by_cases c1 : o.kind % 14 = 6 ∨ o.kind % 14 = 7
  · exact key _ _ (fun s => by unfold fsPlay; rw [if_neg c0, if_pos c1]) (by unfold usedO; rw [if_neg (by omega), if_pos (by omega)]) (goes_sync s o.name)
  by_cases c2 : o.kind % 14 = 8
  · exact key _ _ (fun s => by unfold fsPlay; rw [if_neg c0, if_neg c1, if_pos c2]) (by unfold usedO; rw [if_neg (by omega), if_pos (by omega)]) (goes_cut s o.name o.num)
  by_cases c3 : o.kind % 14 = 9
  · exact key _ _ (fun s => by unfold fsPlay; rw [if_neg c0, if_neg c1, if_neg c2, if_pos c3]) (by unfold usedO; rw [if_pos c3]) (goes_rename s o.name o.other)
  by_cases c4 : o.kind % 14 = 10
  · exact key _ _ (fun s => by unfold fsPlay; rw [if_neg c0, if_neg c1, if_neg c2, if_neg c3, if_pos c4]) (by unfold usedO; rw [if_neg (by omega), if_pos (by omega)]) (goes_remove s o.name)
  · exact key _ _ (fun s => by unfold fsPlay; rw [if_neg c0, if_neg c1, if_neg c2, if_neg c3, if_neg c4]) (by unfold usedO; rw [if_neg (by omega), if_neg (by omega)]) (goes_append s o.name o.b)

/-- what a step of the law leaves: with so many calls left -/
structure Halts (s : FsS) (n : Int) : Prop where
  pos : 0 ≤ n → s.left = some n ∧ s.halted = false
  neg : n < 0 → s.halted = true
theorem free_play (s : FsS) (o : Opr) (h10 : o.kind % 14 ≤ 10) : (fsPlay s.free o).2 = (fsPlay s.free o).2.free := by
  have h := goes_play s.free o h10
  by_cases c : (fsPlay s.free o).1 = 0 ∧ usedO o = true
  · have h1 := h.on c
    rw [free_go, if_pos rfl, free_went] at h1
    have h2 : (fsPlay s.free o).2 = _ := h1
    rw [h2]
    rfl
  · have h1 : (fsPlay s.free o).2 = s.free := h.off c
    rw [h1]
    rfl
/-- a round -/
theorem halts_round {s : FsS} {n : Int} (h : Halts s n) (hn : 0 ≤ n) (o : Opr) (h10 : o.kind % 14 ≤ 10) (m : Int) (hm : m = if (fsPlay s o).1 = 0 ∧ usedO o = true then n - 1 else n) :
    Halts (fsPlay s o).2 m ∧ (0 ≤ m → (fsPlay s.free o).2 = (fsPlay s o).2.free) ∧ (m < 0 → s.free = (fsPlay s o).2.free) := by
  obtain ⟨hl, hh⟩ := h.pos hn
  have hg := goes_play s o h10
  by_cases c : (fsPlay s o).1 = 0 ∧ usedO o = true
  · rw [if_pos c] at hm
    have h1 : (fsPlay s o).2 = _ := hg.on c
    by_cases h0 : n = 0
    · have hgo : s.go = false := by simp [FsS.go, hl, h0]
      have hw : s.went = { s with halted := true } := by unfold FsS.went; rw [hl]; simp [h0]
      rw [hgo, if_neg (by simp), hw] at h1
      rw [h1]
      exact ⟨⟨fun h => by omega, fun _ => rfl⟩, fun h => by omega, fun _ => rfl⟩
    · have hgo : s.go = true := by simp [FsS.go, hl, h0]
      have hw : s.went = { s with left := some (n - 1) } := by unfold FsS.went; rw [hl]; simp [h0]
      rw [hgo, if_pos rfl, hw] at h1
      have h2 := free_play s o h10
      rw [h1, hm]
      refine ⟨⟨fun _ => ⟨rfl, hh⟩, fun h => by omega⟩, fun _ => ?_, fun h => by omega⟩
      rw [h2]
      have h3 := fsPlay_room s.free o
      unfold FsS.free at h3 ⊢
      simp only at h3 ⊢
      rw [h3]
  · rw [if_neg c] at hm
    have h1 : (fsPlay s o).2 = s := hg.off c
    have h2 : (fsPlay s.free o).2 = s.free := (goes_play s.free o h10).off (by rw [show (fsPlay s.free o).1 = (fsPlay s o).1 from hg.err.symm]; exact c)
    rw [h1, h2, hm]
    exact ⟨h, fun _ => rfl, fun h => by omega⟩
theorem free_crash (s : FsS) (K : List Bool) (t : Int) : fsCrash s.free K t = fsCrash s K t := rfl
theorem free_files (s : FsS) : fsFiles s.free = fsFiles s := rfl
theorem halts_start (n : Int) (h : 0 ≤ n) : Halts (fsHalt (fsNew 5000) n) n ∧ fsNew 5000 = (fsHalt (fsNew 5000) n).free :=
  ⟨⟨fun _ => ⟨by show some (max n 0) = some n; rw [Int.max_eq_left h], rfl⟩, fun h2 => by omega⟩, rfl⟩
end Go.Proofs.Ytnlmoegdienhiaa
