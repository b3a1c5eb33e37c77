/-
A file system as plain data: its files by rising names, its pieces, a halt; what its calls do. No program.
A file system in memory.
-/
import Derived.Test.YtglgjakjhkdoaaaGreatDoorZMap
import Derived.Test.YtglgjakjhkdoaaaGreatDoorZOwnZer
namespace Go.Proofs.YtglgjakjhkdoaaaGreatDoor
open Go.RowKit Go.Maps
set_option linter.unusedVariables false
set_option linter.unusedSimpArgs false

abbrev Bs := List UInt8
structure FsS where
  room : Int
  files : List (Bs × Bs)
  waits : List (Bs × Bs)
  left : Option Int
  halted : Bool

def strL (k : Bs) : Lit := .string k
def named (k : Bs) : Bool := decide (1 ≤ k.length) && decide (k.length ≤ 16)
def pieces (k : Bs) (L : List (Bs × Bs)) : Bs := (L.filter fun p => decide (p.1 = k)).flatMap (·.2)
def total (L : List (Bs × Bs)) : Nat := (L.map fun p => p.2.length).sum
def FsS.used (s : FsS) : Nat := total s.files + total s.waits
def FsS.has (s : FsS) (k : Bs) : Bool := (mget k s.files).isSome
def FsS.get (s : FsS) (k : Bs) : Bs := (mget k s.files).getD [] ++ pieces k s.waits
def FsS.go (s : FsS) : Bool := decide (s.left ≠ some 0)
def FsS.went (s : FsS) : FsS := match s.left with
  | none => s
  | some n => if n = 0 then { s with halted := true } else { s with left := some (n - 1) }
def forgotten (k : Bs) (L : List (Bs × Bs)) : List (Bs × Bs) := L.filter fun p => decide (p.1 ≠ k)

def fsNew (room : Int) : FsS := ⟨room, [], [], none, false⟩
def fsCreate (s : FsS) (k : Bs) : Int × FsS :=
  if named k = false then (1, s) else if s.has k then (81, s) else if 8 ≤ s.files.length then (3, s)
  else (0, if s.go then { s.went with files := mput strL k [] s.files } else s.went)
def fsAppend (s : FsS) (k b : Bs) : Int × FsS :=
  if s.has k = false then (80, s) else if b.length = 0 then (0, s) else if s.room - s.used < b.length then (82, s)
  else (0, if s.go then { s.went with waits := s.waits ++ [(k, b)] } else s.went)
def fsSync (s : FsS) (k : Bs) : Int × FsS :=
  if s.has k = false then (80, s) else (0, if s.go then { s.went with files := mput strL k (s.get k) s.files, waits := forgotten k s.waits } else s.went)
def fsCut (s : FsS) (k : Bs) (n : Int) : Int × FsS :=
  if s.has k = false then (80, s) else if n < 0 ∨ (s.get k).length < n then (1, s)
  else (0, if s.go then { s.went with files := mput strL k ((s.get k).take n.toNat) s.files, waits := forgotten k s.waits } else s.went)
def fsRemove (s : FsS) (k : Bs) : Int × FsS :=
  if s.has k = false then (80, s) else (0, if s.go then { s.went with files := mdel k s.files, waits := forgotten k s.waits } else s.went)
def fsRename (s : FsS) (a b : Bs) : Int × FsS :=
  if s.has a = false then (80, s) else if named b = false then (1, s) else if a = b then (0, s)
  else (0, if s.go then { s.went with files := mdel a (mput strL b ((mget a s.files).getD []) s.files), waits := (forgotten b s.waits).map fun p => if p.1 = a then (b, p.2) else p } else s.went)
def fsHalt (s : FsS) (n : Int) : FsS := { s with left := some (max n 0) }

structure FsS.Ok (s : FsS) : Prop where
  room0 : 0 ≤ s.room
  room1 : s.room ≤ 1048576
  used : (s.used : Int) ≤ s.room
  few : s.files.length ≤ 8
  names : ∀ p ∈ s.files, named p.1 = true
  piece : ∀ p ∈ s.waits, p.2 ≠ [] ∧ s.has p.1 = true
  left0 : ∀ n, s.left = some n → 0 ≤ n ∧ n ≤ 9223372036854775807

theorem total_append (L R : List (Bs × Bs)) : total (L ++ R) = total L + total R := by simp [total]
theorem total_cons (p : Bs × Bs) (L : List (Bs × Bs)) : total (p :: L) = p.2.length + total L := by simp [total]
theorem total_perm {L R : List (Bs × Bs)} (h : L.Perm R) : total L = total R := by
  unfold total
  exact (h.map _).sum_nat
theorem mins_perm {κ ν : Type} (kl : κ → Lit) (x : κ × ν) : ∀ E : List (κ × ν), (mins kl x E).Perm (x :: E)
  | [] => List.Perm.refl _
  | y :: r => by
    unfold mins
    split
    · exact List.Perm.refl _
    · exact ((mins_perm kl x r).cons y).trans (List.Perm.swap x y r)
theorem total_filter_le (f : Bs × Bs → Bool) (L : List (Bs × Bs)) : total (L.filter f) ≤ total L := by
  induction L with
  | nil => simp
  | cons p L ih =>
    rw [List.filter_cons]
    split
    · rw [total_cons, total_cons]; omega
    · rw [total_cons]; omega
theorem pieces_length (k : Bs) (L : List (Bs × Bs)) : (pieces k L).length = total (L.filter fun p => decide (p.1 = k)) := by
  unfold pieces total
  induction L.filter fun p => decide (p.1 = k) with
  | nil => rfl
  | cons p M ih => simp [ih]
theorem total_split (k : Bs) (L : List (Bs × Bs)) : total L = total (L.filter fun p => decide (p.1 = k)) + total (forgotten k L) := by
  unfold forgotten
  induction L with
  | nil => rfl
  | cons p L ih =>
    by_cases h : p.1 = k
    · rw [List.filter_cons, if_pos (by simpa using h), List.filter_cons, if_neg (by simpa using h), total_cons, total_cons, ih]; omega
    · rw [List.filter_cons, if_neg (by simpa using h), List.filter_cons, if_pos (by simpa using h), total_cons, total_cons, ih]; omega
theorem mget_total {k v : Bs} {L : List (Bs × Bs)} (h : mget k L = some v) : v.length + total (mdel k L) ≤ total L := by
  induction L with
  | nil => cases h
  | cons p L ih =>
    unfold mget at h ih
    unfold mdel at ih ⊢
    rw [List.find?_cons] at h
    rw [List.filter_cons, total_cons]
    by_cases e : p.1 = k
    · simp only [e, decide_true, Option.map_some, Option.some.injEq] at h
      subst h
      rw [if_neg (by simpa using e)]
      have := total_filter_le (fun p => decide (p.1 ≠ k)) L
      omega
    · simp only [e, decide_false] at h
      rw [if_pos (by simpa using e), total_cons]
      have := ih h
      omega
theorem mdel_total (k : Bs) (L : List (Bs × Bs)) : total (mdel k L) ≤ total L := total_filter_le _ L
theorem mput_total (k v : Bs) (L : List (Bs × Bs)) : total (mput strL k v L) = v.length + total (mdel k L) := by
  unfold mput
  rw [total_perm (mins_perm strL (k, v) (mdel k L)), total_cons]
theorem mdel_length {κ ν : Type} [DecidableEq κ] (k : κ) (E : List (κ × ν)) : (mdel k E).length ≤ E.length := List.length_filter_le _ _
theorem mput_length {κ ν : Type} [DecidableEq κ] (kl : κ → Lit) (k : κ) (v : ν) (E : List (κ × ν)) : (mput kl k v E).length ≤ E.length + 1 := by
  unfold mput
  rw [mins_length]
  have := mdel_length k E
  omega
theorem mdel_length_has {κ ν : Type} [DecidableEq κ] {k : κ} {E : List (κ × ν)} (h : (mget k E).isSome = true) : (mdel k E).length + 1 ≤ E.length := by
  unfold mget at h
  rw [Option.isSome_map, List.find?_isSome] at h
  obtain ⟨p, hp, hk⟩ := h
  unfold mdel
  induction E with
  | nil => cases hp
  | cons y r ih =>
    rw [List.filter_cons]
    by_cases e : y.1 = k
    · rw [if_neg (by simpa using e)]
      have := List.length_filter_le (fun q : κ × ν => decide (q.1 ≠ k)) r
      simp
      simpa using this
    · rw [if_pos (by simpa using e)]
      rcases List.mem_cons.1 hp with rfl | hp
      · exact absurd (by simpa using hk) e
      · have := ih hp
        simp at this ⊢
        omega
theorem mget_put_same {κ ν : Type} [DecidableEq κ] (kl : κ → Lit) (k : κ) (v : ν) (E : List (κ × ν)) : mget k (mput kl k v E) = some v := by
  unfold mput mget
  have : ∀ L : List (κ × ν), (∀ p ∈ L, p.1 ≠ k) → (mins kl (k, v) L).find? (fun p => decide (p.1 = k)) = some (k, v) := by
    intro L
    induction L with
    | nil => intro _; simp [mins]
    | cons y r ih =>
      intro h
      unfold mins
      split
      · simp
      · rw [List.find?_cons]
        have : decide (y.1 = k) = false := by simpa using h y (by simp)
        rw [this]
        exact ih fun p hp => h p (by simp [hp])
  rw [this _ fun p hp => ((mdel_mem k p E).1 hp).2]
  rfl
theorem mget_put_other {κ ν : Type} [DecidableEq κ] (kl : κ → Lit) {k k' : κ} (hne : k' ≠ k) (v : ν) (E : List (κ × ν)) : mget k' (mput kl k v E) = mget k' E := by
  unfold mput mget mdel
  have h1 : ∀ L : List (κ × ν), (mins kl (k, v) L).find? (fun p => decide (p.1 = k')) = L.find? fun p => decide (p.1 = k') := by
    intro L
    induction L with
    | nil => simp [mins, Ne.symm hne]
    | cons y r ih =>
      unfold mins
      split
      · rw [List.find?_cons]
        simp [Ne.symm hne]
      · rw [List.find?_cons, List.find?_cons, ih]
  rw [h1]
  congr 1
  rw [List.find?_filter]
  congr 1
  funext p
  by_cases e : p.1 = k'
  · simp [e, hne]
  · simp [e]
theorem mget_del_same {κ ν : Type} [DecidableEq κ] (k : κ) (E : List (κ × ν)) : mget k (mdel k E) = none := by
  cases h : mget k (mdel k E) with
  | none => rfl
  | some v => exact absurd rfl ((mdel_mem k (k, v) E).1 (mget_mem h)).2
theorem mget_del_other {κ ν : Type} [DecidableEq κ] {k k' : κ} (hne : k' ≠ k) (E : List (κ × ν)) : mget k' (mdel k E) = mget k' E := by
  unfold mget mdel
  congr 1
  rw [List.find?_filter]
  congr 1
  funext p
  by_cases e : p.1 = k'
  · simp [e, hne]
  · simp [e]
theorem get_total (s : FsS) (k : Bs) : (s.get k).length + total (mdel k s.files) + total (forgotten k s.waits) ≤ s.used := by
  unfold FsS.get FsS.used
  rw [List.length_append, pieces_length]
  have h1 := total_split k s.waits
  cases h : mget k s.files with
  | none =>
    have := mdel_total k s.files
    simp
    omega
  | some v =>
    have := mget_total h
    simp
    omega
theorem mins_ct {κ ν μ : Type} (kl : κ → Lit) (g : ν → μ) (x : κ × ν) : ∀ E : List (κ × ν), (mins kl x E).map (fun p => (p.1, g p.2)) = mins kl (x.1, g x.2) (E.map fun p => (p.1, g p.2))
  | [] => rfl
  | y :: r => by
    unfold mins
    simp only [List.map_cons]
    split
    · rfl
    · rw [List.map_cons, mins_ct kl g x r]
theorem mdel_ct {κ ν μ : Type} [DecidableEq κ] (g : ν → μ) (k : κ) (E : List (κ × ν)) : (mdel k E).map (fun p => (p.1, g p.2)) = mdel k (E.map fun p => (p.1, g p.2)) := by
  unfold mdel
  rw [List.filter_map]
  rfl
theorem mput_ct {κ ν μ : Type} [DecidableEq κ] (kl : κ → Lit) (g : ν → μ) (k : κ) (v : ν) (E : List (κ × ν)) : (mput kl k v E).map (fun p => (p.1, g p.2)) = mput kl k (g v) (E.map fun p => (p.1, g p.2)) := by
  unfold mput
  rw [mins_ct, mdel_ct]
theorem mget_ct {κ ν μ : Type} [DecidableEq κ] (g : ν → μ) (k : κ) (E : List (κ × ν)) : mget k (E.map fun p => (p.1, g p.2)) = (mget k E).map g := by
  unfold mget
  rw [List.find?_map, Option.map_map, Option.map_map]
  rfl

theorem FsS.Ok.went {s : FsS} (h : s.Ok) : s.went.Ok := by
  unfold FsS.went
  cases hl : s.left with
  | none => exact h
  | some n =>
    dsimp only
    split
    · exact ⟨h.room0, h.room1, h.used, h.few, h.names, h.piece, by rw [← hl]; exact h.left0⟩
    · have := h.left0 n hl
      exact ⟨h.room0, h.room1, h.used, h.few, h.names, h.piece, fun m hm => by simp only [Option.some.injEq] at hm; omega⟩
theorem went_parts (s : FsS) : s.went.room = s.room ∧ s.went.files = s.files ∧ s.went.waits = s.waits := by
  unfold FsS.went
  cases s.left with
  | none => exact ⟨rfl, rfl, rfl⟩
  | some n => dsimp only; split <;> exact ⟨rfl, rfl, rfl⟩
theorem ok_with {s : FsS} (h : s.Ok) (F W : List (Bs × Bs)) (hu : total F + total W ≤ s.used) (hf : F.length ≤ 8) (hn : ∀ p ∈ F, named p.1 = true) (hw : ∀ p ∈ W, p.2 ≠ [] ∧ (mget p.1 F).isSome = true) : ({ s.went with files := F, waits := W } : FsS).Ok := by
  have h1 := h.went
  obtain ⟨e1, e2, e3⟩ := went_parts s
  refine ⟨h1.room0, h1.room1, ?_, hf, hn, hw, h1.left0⟩
  show ((total F + total W : Nat) : Int) ≤ s.went.room
  rw [e1]
  have := h.used
  omega
end Go.Proofs.YtglgjakjhkdoaaaGreatDoor

namespace Go.Proofs.YtglgjakjhkdoaaaGreatDoor
open Go.RowKit Go.Maps
set_option linter.unusedVariables false
set_option linter.unusedSimpArgs false

structure Ent where
  b : Bs
  a : Option Addr
  n : Nat
  c : Nat
def Ent.v (e : Ent) : Value := .slice e.a e.n e.c
def ct (p : Bs × Ent) : Bs × Bs := (p.1, p.2.b)
def eflat (L : List (Bs × Ent)) : List Value := L.flatMap fun p => [encStr p.1, p.2.v]
theorem eflat_length (L : List (Bs × Ent)) : (eflat L).length = L.length * 2 := by
  induction L with
  | nil => rfl
  | cons p L ih => unfold eflat at ih ⊢; rw [List.flatMap_cons, List.length_append, ih]; simp; omega
theorem eflat_append (L R : List (Bs × Ent)) : eflat (L ++ R) = eflat L ++ eflat R := by simp [eflat]
theorem eflat_one (L : List (Bs × Ent)) : ∀ u ∈ eflat L, u.oneCell' = true := by
  intro u hu
  unfold eflat at hu
  obtain ⟨p, _, hp⟩ := List.mem_flatMap.1 hu
  simp only [List.mem_cons, List.not_mem_nil, or_false] at hp
  rcases hp with rfl | rfl <;> rfl
theorem eflat_get {L : List (Bs × Ent)} {i : Nat} (h : i < L.length) : (eflat L)[2 * i]? = some (encStr L[i].1) ∧ (eflat L)[2 * i + 1]? = some L[i].2.v := by
  induction L generalizing i with
  | nil => simp at h
  | cons p L ih =>
    have e : eflat (p :: L) = encStr p.1 :: p.2.v :: eflat L := by simp [eflat]
    rw [e]
    cases i with
    | zero => simp
    | succ i =>
      have := ih (i := i) (by simpa using h)
      rw [show 2 * (i + 1) = 2 * i + 1 + 1 by omega]
      simpa using this

abbrev FsMap (w : World) (mb : Nat) (E : List (Bs × Ent)) : Prop := OwnM w Tryz.prog 9 strL isSl Ent.v mb E
theorem keysFs : KeyAs Tryz.prog 9 encStr strL (fun l : Bs => l.length ≤ maxLen) := string_as Tryz.underlying9

def LeftAt (w : World) : Option Nat → Option Int → Prop
  | none, none => True
  | some b, some n => w.heap[b]? = some (.cells #[.int .i64 n] 3 (0, 0))
  | _, _ => False
theorem LeftAt.cases {w : World} {lp : Option Nat} {l : Option Int} (h : LeftAt w lp l) : (lp = none ∧ l = none) ∨ ∃ b n, lp = some b ∧ l = some n ∧ w.heap[b]? = some (.cells #[.int .i64 n] 3 (0, 0)) := by
  cases lp <;> cases l
  · exact .inl ⟨rfl, rfl⟩
  · exact h.elim
  · exact h.elim
  · exact .inr ⟨_, _, rfl, rfl, h⟩
theorem LeftAt.same {w w' : World} {lp : Option Nat} {l : Option Int} (h : LeftAt w lp l) (hk : ∀ b, lp = some b → w'.heap[b]? = w.heap[b]?) : LeftAt w' lp l := by
  rcases h.cases with ⟨rfl, rfl⟩ | ⟨b, n, rfl, rfl, h1⟩
  · trivial
  · exact (hk b rfl).trans h1

def muts (sb mb : Nat) (wv : Value) (lp : Option Nat) : List Nat := sb :: mb :: (wv.ownBlock.toList ++ lp.toList)
def fpOf (M : List Nat) (X : List (Bs × Ent)) : List Nat := M ++ X.flatMap fun p => p.2.v.ownBlock.toList
theorem mem_fpOf {M : List Nat} {X : List (Bs × Ent)} {k : Nat} : k ∈ fpOf M X ↔ k ∈ M ∨ ∃ p ∈ X, p.2.v.ownBlock = some k := by
  unfold fpOf
  rw [List.mem_append, List.mem_flatMap]
  simp [Option.mem_toList]

structure EntOk (w : World) (M : List Nat) (e : Ent) : Prop where
  rd : RdB w e.v e.b
  n : e.n = e.b.length
  le : e.n ≤ e.c
  cap : e.c ≤ 9223372036854775807
  far : ∀ k, e.v.ownBlock = some k → k ∉ M ∧ k < w.heap.size
theorem EntOk.same {w w' : World} {M : List Nat} {e : Ent} (h : EntOk w M e) (hk : ∀ k, e.v.ownBlock = some k → w'.heap[k]? = w.heap[k]?) (hs : w.heap.size ≤ w'.heap.size) : EntOk w' M e :=
  ⟨h.rd.keep hk, h.n, h.le, h.cap, fun k hk => ⟨(h.far k hk).1, Nat.lt_of_lt_of_le (h.far k hk).2 hs⟩⟩

structure FsIn (w : World) (sb : Nat) (s : FsS) (mb : Nat) (wv : Value) (lp : Option Nat) (E L : List (Bs × Ent)) : Prop where
  blk : w.heap[sb]? = some (.cells #[.int .i64 s.room, .map (some mb), wv, .pointer (lp.map fun b => ⟨b, 0, none⟩), .bool s.halted] 59 (0, 0))
  map : FsMap w mb E
  row : w.ownsRow 0 68 2 wv L.length (eflat L)
  left : LeftAt w lp s.left
  files : s.files = E.map ct
  waits : s.waits = L.map ct
  ent : ∀ p ∈ E ++ L, EntOk w (muts sb mb wv lp) p.2
  nd : (muts sb mb wv lp).Nodup

def FsRep (w : World) (sb : Nat) (s : FsS) (F : List Nat) : Prop := ∃ mb wv lp E L, FsIn w sb s mb wv lp E L ∧ F = fpOf (muts sb mb wv lp) (E ++ L)

theorem FsIn.mut_lt {w : World} {sb mb : Nat} {s : FsS} {wv : Value} {lp : Option Nat} {E L : List (Bs × Ent)} (h : FsIn w sb s mb wv lp E L) : ∀ k ∈ muts sb mb wv lp, k < w.heap.size := by
  intro k hk
  unfold muts at hk
  simp only [List.mem_cons, List.mem_append, Option.mem_toList] at hk
  rcases hk with rfl | rfl | hk | hk
  · exact (Array.getElem?_eq_some_iff.1 h.blk).1
  · exact h.map.lt
  · exact (h.row.lt k hk).2
  · rcases h.left.cases with ⟨rfl, _⟩ | ⟨b, n, rfl, _, h1⟩
    · cases hk
    · simp only [Option.some.injEq] at hk
      subst hk
      exact (Array.getElem?_eq_some_iff.1 h1).1
theorem FsIn.fp_lt {w : World} {sb mb : Nat} {s : FsS} {wv : Value} {lp : Option Nat} {E L : List (Bs × Ent)} (h : FsIn w sb s mb wv lp E L) : ∀ k ∈ fpOf (muts sb mb wv lp) (E ++ L), k < w.heap.size := by
  intro k hk
  rcases mem_fpOf.1 hk with hk | ⟨p, hp, hk⟩
  · exact h.mut_lt k hk
  · exact ((h.ent p hp).far k hk).2
theorem FsRep.lt {w : World} {sb : Nat} {s : FsS} {F : List Nat} (h : FsRep w sb s F) : ∀ k ∈ F, k < w.heap.size := by
  obtain ⟨mb, wv, lp, E, L, h, rfl⟩ := h
  exact h.fp_lt
theorem FsIn.same {w w' : World} {sb mb : Nat} {s : FsS} {wv : Value} {lp : Option Nat} {E L : List (Bs × Ent)} (h : FsIn w sb s mb wv lp E L) (hk : ∀ k ∈ fpOf (muts sb mb wv lp) (E ++ L), w'.heap[k]? = w.heap[k]?) (hs : w.heap.size ≤ w'.heap.size) : FsIn w' sb s mb wv lp E L := by
  have hm : ∀ k ∈ muts sb mb wv lp, w'.heap[k]? = w.heap[k]? := fun k h => hk k (mem_fpOf.2 (.inl h))
  refine ⟨(hm sb (by simp [muts])).trans h.blk, h.map.same (hm mb (by simp [muts])), ownsRow_same h.row fun b hb => hm b (by simp [muts, hb]), h.left.same fun b hb => hm b (by simp [muts, hb]), h.files, h.waits, fun p hp => (h.ent p hp).same (fun k hk' => hk k (mem_fpOf.2 (.inr ⟨p, hp, hk'⟩))) hs, h.nd⟩
theorem FsRep.same {w w' : World} {sb : Nat} {s : FsS} {F : List Nat} (h : FsRep w sb s F) (hk : ∀ k ∈ F, w'.heap[k]? = w.heap[k]?) (hs : w.heap.size ≤ w'.heap.size) : FsRep w' sb s F := by
  obtain ⟨mb, wv, lp, E, L, h, rfl⟩ := h
  exact ⟨mb, wv, lp, E, L, h.same hk hs, rfl⟩
theorem FsRep.low {w w' : World} {sb : Nat} {s : FsS} {F : List Nat} (h : FsRep w sb s F) (hb : Below w.heap.size w w') : FsRep w' sb s F := h.same (fun k hk => hb.block k (h.lt k hk)) hb.size
theorem FsRep.chg {w w' : World} {sb : Nat} {s : FsS} {F G G' : List Nat} (h : FsRep w sb s F) (hc : Chg G G' w w') (hd : ∀ k ∈ F, k ∉ G) : FsRep w' sb s F := h.same (fun k hk => hc.block k (h.lt k hk) (hd k hk)) hc.size

def FsTo (w : World) (sb : Nat) (F : List Nat) (s : FsS) (w' : World) : Prop := ∃ F', FsRep w' sb s F' ∧ Chg F F' w w'

theorem fs_cells {w : World} {sb : Nat} {v0 v1 v2 v3 v4 : Value} {t : TypeId} (h : w.heap[sb]? = some (.cells #[v0, v1, v2, v3, v4] t (0, 0))) :
    w.cell? ⟨sb, 0, none⟩ = some v0 ∧ w.cell? ⟨sb, 1, none⟩ = some v1 ∧ w.cell? ⟨sb, 2, none⟩ = some v2 ∧ w.cell? ⟨sb, 3, none⟩ = some v3 ∧ w.cell? ⟨sb, 4, none⟩ = some v4 ∧ ∀ i, w.frozen? ⟨sb, i, none⟩ = false := by
  simp [World.cell?, World.frozen?, h]

theorem FsIn.to {w w' : World} {sb mb mb' : Nat} {s s' : FsS} {wv wv' : Value} {lp lp' : Option Nat} {E L E' L' : List (Bs × Ent)} (h : FsIn w sb s mb wv lp E L) (h' : FsIn w' sb s' mb' wv' lp' E' L')
    (hos : w'.os = w.os) (hta : w'.tape = w.tape) (hou : w'.output = w.output) (hsz : w.heap.size ≤ w'.heap.size) (hb : ∀ k, k < w.heap.size → k ∉ muts sb mb wv lp → w'.heap[k]? = w.heap[k]?)
    (hm : ∀ k ∈ muts sb mb' wv' lp', k ∈ muts sb mb wv lp ∨ w.heap.size ≤ k) (he : ∀ p ∈ E' ++ L', ∀ k, p.2.v.ownBlock = some k → (∃ q ∈ E ++ L, q.2.v.ownBlock = some k) ∨ w.heap.size ≤ k) : FsTo w sb (fpOf (muts sb mb wv lp) (E ++ L)) s' w' := by
  refine ⟨_, ⟨mb', wv', lp', E', L', h', rfl⟩, hos, hta, hou, hsz, fun k hk hn => hb k hk fun hm => hn (mem_fpOf.2 (.inl hm)), fun k hk => ?_⟩
  rcases mem_fpOf.1 hk with hk | ⟨p, hp, hk⟩
  · exact (hm k hk).imp (fun h => mem_fpOf.2 (.inl h)) id
  · exact (he p hp k hk).imp (fun h => mem_fpOf.2 (.inr h)) id

theorem fs_New (room : Int) (h0 : 0 ≤ room) (h1 : room ≤ 1048576) (w : World) : Calls Tryz.prog 6 #[.int .i64 room] w fun e w' => ∃ sb F, e = .returned (.pointer (some ⟨sb, 0, none⟩)) ∧ FsRep w' sb (fsNew room) F ∧ (∀ k ∈ F, w.heap.size ≤ k) ∧ Below w.heap.size w w' := by
  have i0 : ¬ (room < 0) := by omega
  have i1 : ¬ (1048576 < room) := by omega
  have hmm := @run_makeMap Tryz.prog
  go_enter Tryz.func6, Tryz.ntmps6
  go_wp2
  go_ret
  have hb1 : Below w.heap.size w (w.alloc (.map #[] 0)) := below_alloc w _
  have hb2 := hb1.trans ((below_alloc (w.alloc (.map #[] 0)) (.cells #[.int .i64 room, .map (some w.heap.size), .slice none 0 0, .pointer none, .bool false] 59)).mono (by simp))
  refine ⟨w.heap.size + 1, rfl, _, ⟨w.heap.size, .slice none 0 0, none, [], [], ⟨?_, ?_, World.ownsRow_nil _ _ _ _, trivial, rfl, rfl, (fun p hp => by cases hp), ?_⟩, rfl⟩, ?_, hb2⟩
  · have := heap_alloc_at (w.alloc (.map #[] 0)) (.cells #[.int .i64 room, .map (some w.heap.size), .slice none 0 0, .pointer none, .bool false] 59)
    simpa [fsNew] using this
  · exact (ownM_made w).low (below_alloc _ _)
  · simp [muts, Value.ownBlock]
  · intro k hk
    rcases mem_fpOf.1 hk with hk | ⟨p, hp, _⟩
    · simp [muts, Value.ownBlock] at hk
      omega
    · cases hp
theorem fs_New_none (room : Int) (h0 : room < 0 ∨ 1048576 < room) (w : World) : Calls Tryz.prog 6 #[.int .i64 room] w fun e w' => e = .returned (.pointer none) ∧ w = w' := by
  by_cases i0 : room < 0
  · go_enter Tryz.func6, Tryz.ntmps6
    go_wp2
    go_ret
    exact ⟨rfl, rfl⟩
  · have i1 : 1048576 < room := by omega
    go_enter Tryz.func6, Tryz.ntmps6
    go_wp2
    go_ret
    exact ⟨rfl, rfl⟩
end Go.Proofs.YtglgjakjhkdoaaaGreatDoor
