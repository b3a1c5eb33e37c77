/-
  A file system as plain data: its files by rising names, its pieces, a halt; what its calls do. No program.
-/
import Derived.Test.YtglgjakjhkdoaaaDoorMap
namespace Go.Proofs.YtglgjakjhkdoaaaDoor
open Go.RowKit Go.Maps
set_option linter.unusedVariables false
set_option linter.unusedSimpArgs false

abbrev Bs := List UInt8
/-- a file system -/
structure FsS where
  room : Int
  files : List (Bs × Bs)
  waits : List (Bs × Bs)
  left : Option Int
  halted : Bool

def strL (k : Bs) : Lit := .string k
def named (k : Bs) : Bool := decide (1 ≤ k.length) && decide (k.length ≤ 16)
/-- a file's pieces, one behind the other -/
def pieces (k : Bs) (L : List (Bs × Bs)) : Bs := (L.filter fun p => decide (p.1 = k)).flatMap (·.2)
def total (L : List (Bs × Bs)) : Nat := (L.map fun p => p.2.length).sum
def FsS.used (s : FsS) : Nat := total s.files + total s.waits
def FsS.has (s : FsS) (k : Bs) : Bool := (mget k s.files).isSome
/-- what is in a file -/
def FsS.get (s : FsS) (k : Bs) : Bs := (mget k s.files).getD [] ++ pieces k s.waits
/-- is a call done? -/
def FsS.go (s : FsS) : Bool := decide (s.left ≠ some 0)
def FsS.went (s : FsS) : FsS := match s.left with
  | none => s
  | some n => if n = 0 then { s with halted := true } else { s with left := some (n - 1) }
def forgotten (k : Bs) (L : List (Bs × Bs)) : List (Bs × Bs) := L.filter fun p => decide (p.1 ≠ k)

def fsNew (room : Int) : FsS := ⟨room, [], [], none, false⟩
/-- Create: its error, what comes of it -/
def fsCreate (s : FsS) (k : Bs) : Int × FsS :=
  if named k = false then (1, s) else if s.has k then (81, s) else if 8 ≤ s.files.length then (3, s)
  else (0, if s.go then { s.went with files := mput strL k [] s.files } else s.went)
def fsAppend (s : FsS) (k b : Bs) : Int × FsS :=
  if s.has k = false then (80, s) else if b.length = 0 then (0, s) else if s.room - s.used < b.length then (82, s)
  else (0, if s.go then { s.went with waits := s.waits ++ [(k, b)] } else s.went)
def fsSync (s : FsS) (k : Bs) : Int × FsS :=
  if s.has k = false then (80, s) else (0, if s.go then { s.went with files := mput strL k (s.get k) s.files, waits := forgotten k s.waits } else s.went)
def fsCut (s : FsS) (k : Bs) (n : Int) : Int × FsS :=
  if s.has k = false then (80, s) else if n < 0 ∨ (s.get k).length < n then (1, s)
  else (0, if s.go then { s.went with files := mput strL k ((s.get k).take n.toNat) s.files, waits := forgotten k s.waits } else s.went)
def fsRemove (s : FsS) (k : Bs) : Int × FsS :=
  if s.has k = false then (80, s) else (0, if s.go then { s.went with files := mdel k s.files, waits := forgotten k s.waits } else s.went)
def fsRename (s : FsS) (a b : Bs) : Int × FsS :=
  if s.has a = false then (80, s) else if named b = false then (1, s) else if a = b then (0, s)
  else (0, if s.go then { s.went with files := mdel a (mput strL b ((mget a s.files).getD []) s.files), waits := (forgotten b s.waits).map fun p => if p.1 = a then (b, p.2) else p } else s.went)
def fsHalt (s : FsS) (n : Int) : FsS := { s with left := some (max n 0) }

/-- what is so of each -/
structure FsS.Ok (s : FsS) : Prop where
  room0 : 0 ≤ s.room
  room1 : s.room ≤ 1048576
  used : (s.used : Int) ≤ s.room
  few : s.files.length ≤ 8
  names : ∀ p ∈ s.files, named p.1 = true
  piece : ∀ p ∈ s.waits, p.2 ≠ [] ∧ s.has p.1 = true
  left0 : ∀ n, s.left = some n → 0 ≤ n ∧ n ≤ 9223372036854775807

theorem total_append (L R : List (Bs × Bs)) : total (L ++ R) = total L + total R := by simp [total]
theorem total_cons (p : Bs × Bs) (L : List (Bs × Bs)) : total (p :: L) = p.2.length + total L := by simp [total]
theorem total_perm {L R : List (Bs × Bs)} (h : L.Perm R) : total L = total R := by
  unfold total
  exact (h.map _).sum_nat
theorem mins_perm {κ ν : Type} (kl : κ → Lit) (x : κ × ν) : ∀ E : List (κ × ν), (mins kl x E).Perm (x :: E)
  | [] => List.Perm.refl _
  | y :: r => by
    unfold mins
    split
    · exact List.Perm.refl _
    · exact ((mins_perm kl x r).cons y).trans (List.Perm.swap x y r)
theorem total_filter_le (f : Bs × Bs → Bool) (L : List (Bs × Bs)) : total (L.filter f) ≤ total L := by
  induction L with
  | nil => simp
  | cons p L ih =>
    rw [List.filter_cons]
    split
    · rw [total_cons, total_cons]; omega
    · rw [total_cons]; omega
theorem pieces_length (k : Bs) (L : List (Bs × Bs)) : (pieces k L).length = total (L.filter fun p => decide (p.1 = k)) := by
  unfold pieces total
  induction L.filter fun p => decide (p.1 = k) with
  | nil => rfl
  | cons p M ih => simp [ih]
theorem total_split (k : Bs) (L : List (Bs × Bs)) : total L = total (L.filter fun p => decide (p.1 = k)) + total (forgotten k L) := by
  unfold forgotten
  induction L with
  | nil => rfl
  | cons p L ih =>
    by_cases h : p.1 = k
    · rw [List.filter_cons, if_pos (by simpa using h), List.filter_cons, if_neg (by simpa using h), total_cons, total_cons, ih]; omega
    · rw [List.filter_cons, if_neg (by simpa using h), List.filter_cons, if_pos (by simpa using h), total_cons, total_cons, ih]; omega
theorem mget_total {k v : Bs} {L : List (Bs × Bs)} (h : mget k L = some v) : v.length + total (mdel k L) ≤ total L := by
  induction L with
  | nil => cases h
  | cons p L ih =>
    unfold mget at h ih
    unfold mdel at ih ⊢
    rw [List.find?_cons] at h
    rw [List.filter_cons, total_cons]
    by_cases e : p.1 = k
    · simp only [e, decide_true, Option.map_some, Option.some.injEq] at h
      subst h
      rw [if_neg (by simpa using e)]
      have := total_filter_le (fun p => decide (p.1 ≠ k)) L
      omega
    · simp only [e, decide_false] at h
      rw [if_pos (by simpa using e), total_cons]
      have := ih h
      omega
theorem mdel_total (k : Bs) (L : List (Bs × Bs)) : total (mdel k L) ≤ total L := total_filter_le _ L
theorem mput_total (k v : Bs) (L : List (Bs × Bs)) : total (mput strL k v L) = v.length + total (mdel k L) := by
  unfold mput
  rw [total_perm (mins_perm strL (k, v) (mdel k L)), total_cons]
theorem mdel_length {κ ν : Type} [DecidableEq κ] (k : κ) (E : List (κ × ν)) : (mdel k E).length ≤ E.length := List.length_filter_le _ _
theorem mput_length {κ ν : Type} [DecidableEq κ] (kl : κ → Lit) (k : κ) (v : ν) (E : List (κ × ν)) : (mput kl k v E).length ≤ E.length + 1 := by
  unfold mput
  rw [mins_length]
  have := mdel_length k E
  omega
theorem mdel_length_has {κ ν : Type} [DecidableEq κ] {k : κ} {E : List (κ × ν)} (h : (mget k E).isSome = true) : (mdel k E).length + 1 ≤ E.length := by
  unfold mget at h
  rw [Option.isSome_map, List.find?_isSome] at h
  obtain ⟨p, hp, hk⟩ := h
  unfold mdel
  induction E with
  | nil => cases hp
  | cons y r ih =>
    rw [List.filter_cons]
    by_cases e : y.1 = k
    · rw [if_neg (by simpa using e)]
      have := List.length_filter_le (fun q : κ × ν => decide (q.1 ≠ k)) r
      simp
      simpa using this
    · rw [if_pos (by simpa using e)]
      rcases List.mem_cons.1 hp with rfl | hp
      · exact absurd (by simpa using hk) e
      · have := ih hp
        simp at this ⊢
        omega
theorem mget_put_same {κ ν : Type} [DecidableEq κ] (kl : κ → Lit) (k : κ) (v : ν) (E : List (κ × ν)) : mget k (mput kl k v E) = some v := by
  unfold mput mget
  have : ∀ L : List (κ × ν), (∀ p ∈ L, p.1 ≠ k) → (mins kl (k, v) L).find? (fun p => decide (p.1 = k)) = some (k, v) := by
    intro L
    induction L with
    | nil => intro _; simp [mins]
    | cons y r ih =>
      intro h
      unfold mins
      split
      · simp
      · rw [List.find?_cons]
        have : decide (y.1 = k) = false := by simpa using h y (by simp)
        rw [this]
        exact ih fun p hp => h p (by simp [hp])
  rw [this _ fun p hp => ((mdel_mem k p E).1 hp).2]
  rfl
theorem mget_put_other {κ ν : Type} [DecidableEq κ] (kl : κ → Lit) {k k' : κ} (hne : k' ≠ k) (v : ν) (E : List (κ × ν)) : mget k' (mput kl k v E) = mget k' E := by
  unfold mput mget mdel
  have h1 : ∀ L : List (κ × ν), (mins kl (k, v) L).find? (fun p => decide (p.1 = k')) = L.find? fun p => decide (p.1 = k') := by
    intro L
    induction L with
    | nil => simp [mins, Ne.symm hne]
    | cons y r ih =>
      unfold mins
      split
      · rw [List.find?_cons]
        simp [Ne.symm hne]
      · rw [List.find?_cons, List.find?_cons, ih]
  rw [h1]
  congr 1
  rw [List.find?_filter]
  congr 1
  funext p
  by_cases e : p.1 = k'
  · simp [e, hne]
  · simp [e]
theorem mget_del_same {κ ν : Type} [DecidableEq κ] (k : κ) (E : List (κ × ν)) : mget k (mdel k E) = none := by
  cases h : mget k (mdel k E) with
  | none => rfl
  | some v => exact absurd rfl ((mdel_mem k (k, v) E).1 (mget_mem h)).2
theorem mget_del_other {κ ν : Type} [DecidableEq κ] {k k' : κ} (hne : k' ≠ k) (E : List (κ × ν)) : mget k' (mdel k E) = mget k' E := by
  unfold mget mdel
  congr 1
  rw [List.find?_filter]
  congr 1
  funext p
  by_cases e : p.1 = k'
  · simp [e, hne]
  · simp [e]
theorem get_total (s : FsS) (k : Bs) : (s.get k).length + total (mdel k s.files) + total (forgotten k s.waits) ≤ s.used := by
  unfold FsS.get FsS.used
  rw [List.length_append, pieces_length]
  have h1 := total_split k s.waits
  cases h : mget k s.files with
  | none =>
    have := mdel_total k s.files
    simp
    omega
  | some v =>
    have := mget_total h
    simp
    omega
/-- lists with something more beside each -/
theorem mins_ct {κ ν μ : Type} (kl : κ → Lit) (g : ν → μ) (x : κ × ν) : ∀ E : List (κ × ν), (mins kl x E).map (fun p => (p.1, g p.2)) = mins kl (x.1, g x.2) (E.map fun p => (p.1, g p.2))
  | [] => rfl
  | y :: r => by
    unfold mins
    simp only [List.map_cons]
    split
    · rfl
    · rw [List.map_cons, mins_ct kl g x r]
theorem mdel_ct {κ ν μ : Type} [DecidableEq κ] (g : ν → μ) (k : κ) (E : List (κ × ν)) : (mdel k E).map (fun p => (p.1, g p.2)) = mdel k (E.map fun p => (p.1, g p.2)) := by
  unfold mdel
  rw [List.filter_map]
  rfl
theorem mput_ct {κ ν μ : Type} [DecidableEq κ] (kl : κ → Lit) (g : ν → μ) (k : κ) (v : ν) (E : List (κ × ν)) : (mput kl k v E).map (fun p => (p.1, g p.2)) = mput kl k (g v) (E.map fun p => (p.1, g p.2)) := by
  unfold mput
  rw [mins_ct, mdel_ct]
theorem mget_ct {κ ν μ : Type} [DecidableEq κ] (g : ν → μ) (k : κ) (E : List (κ × ν)) : mget k (E.map fun p => (p.1, g p.2)) = (mget k E).map g := by
  unfold mget
  rw [List.find?_map, Option.map_map, Option.map_map]
  rfl

/-! what is so stays so -/
theorem FsS.Ok.went {s : FsS} (h : s.Ok) : s.went.Ok := by
  unfold FsS.went
  cases hl : s.left with
  | none => exact h
  | some n =>
    dsimp only
    split
    · exact ⟨h.room0, h.room1, h.used, h.few, h.names, h.piece, by rw [← hl]; exact h.left0⟩
    · have := h.left0 n hl
      exact ⟨h.room0, h.room1, h.used, h.few, h.names, h.piece, fun m hm => by simp only [Option.some.injEq] at hm; omega⟩
theorem went_parts (s : FsS) : s.went.room = s.room ∧ s.went.files = s.files ∧ s.went.waits = s.waits := by
  unfold FsS.went
  cases s.left with
  | none => exact ⟨rfl, rfl, rfl⟩
  | some n => dsimp only; split <;> exact ⟨rfl, rfl, rfl⟩
theorem ok_with {s : FsS} (h : s.Ok) (F W : List (Bs × Bs)) (hu : total F + total W ≤ s.used) (hf : F.length ≤ 8) (hn : ∀ p ∈ F, named p.1 = true) (hw : ∀ p ∈ W, p.2 ≠ [] ∧ (mget p.1 F).isSome = true) : ({ s.went with files := F, waits := W } : FsS).Ok := by
  have h1 := h.went
  obtain ⟨e1, e2, e3⟩ := went_parts s
  refine ⟨h1.room0, h1.room1, ?_, hf, hn, hw, h1.left0⟩
  show ((total F + total W : Nat) : Int) ≤ s.went.room
  rw [e1]
  have := h.used
  omega
end Go.Proofs.YtglgjakjhkdoaaaDoor
