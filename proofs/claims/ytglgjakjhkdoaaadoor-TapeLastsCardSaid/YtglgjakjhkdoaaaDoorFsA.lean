/-
  A file system in memory.
-/
import Derived.Test.YtglgjakjhkdoaaaDoorFsM
import Derived.Test.YtglgjakjhkdoaaaDoorOwn
namespace Go.Proofs.YtglgjakjhkdoaaaDoor
open Go.RowKit Go.Maps
set_option linter.unusedVariables false
set_option linter.unusedSimpArgs false

/-- bytes, and the slice that they lie in -/
structure Ent where
  b : Bs
  a : Option Addr
  n : Nat
  c : Nat
def Ent.v (e : Ent) : Value := .slice e.a e.n e.c
def ct (p : Bs × Ent) : Bs × Bs := (p.1, p.2.b)
def eflat (L : List (Bs × Ent)) : List Value := L.flatMap fun p => [encStr p.1, p.2.v]
theorem eflat_length (L : List (Bs × Ent)) : (eflat L).length = L.length * 2 := by
  induction L with
  | nil => rfl
  | cons p L ih => unfold eflat at ih ⊢; rw [List.flatMap_cons, List.length_append, ih]; simp; omega
theorem eflat_append (L R : List (Bs × Ent)) : eflat (L ++ R) = eflat L ++ eflat R := by simp [eflat]
theorem eflat_one (L : List (Bs × Ent)) : ∀ u ∈ eflat L, u.oneCell' = true := by
  intro u hu
  unfold eflat at hu
  obtain ⟨p, _, hp⟩ := List.mem_flatMap.1 hu
  simp only [List.mem_cons, List.not_mem_nil, or_false] at hp
  rcases hp with rfl | rfl <;> rfl
theorem eflat_get {L : List (Bs × Ent)} {i : Nat} (h : i < L.length) : (eflat L)[2 * i]? = some (encStr L[i].1) ∧ (eflat L)[2 * i + 1]? = some L[i].2.v := by
  induction L generalizing i with
  | nil => simp at h
  | cons p L ih =>
    have e : eflat (p :: L) = encStr p.1 :: p.2.v :: eflat L := by simp [eflat]
    rw [e]
    cases i with
    | zero => simp
    | succ i =>
      have := ih (i := i) (by simpa using h)
      rw [show 2 * (i + 1) = 2 * i + 1 + 1 by omega]
      simpa using this

abbrev FsMap (w : World) (mb : Nat) (E : List (Bs × Ent)) : Prop := OwnM w Tryd.prog 9 strL isSl Ent.v mb E
theorem keysFs : KeyAs Tryd.prog 9 encStr strL (fun l : Bs => l.length ≤ maxLen) := string_as Tryd.underlying9

def LeftAt (w : World) : Option Nat → Option Int → Prop
  | none, none => True
  | some b, some n => w.heap[b]? = some (.cells #[.int .i64 n] 3 (0, 0))
  | _, _ => False
theorem LeftAt.cases {w : World} {lp : Option Nat} {l : Option Int} (h : LeftAt w lp l) : (lp = none ∧ l = none) ∨ ∃ b n, lp = some b ∧ l = some n ∧ w.heap[b]? = some (.cells #[.int .i64 n] 3 (0, 0)) := by
  cases lp <;> cases l
  · exact .inl ⟨rfl, rfl⟩
  · exact h.elim
  · exact h.elim
  · exact .inr ⟨_, _, rfl, rfl, h⟩
theorem LeftAt.same {w w' : World} {lp : Option Nat} {l : Option Int} (h : LeftAt w lp l) (hk : ∀ b, lp = some b → w'.heap[b]? = w.heap[b]?) : LeftAt w' lp l := by
  rcases h.cases with ⟨rfl, rfl⟩ | ⟨b, n, rfl, rfl, h1⟩
  · trivial
  · exact (hk b rfl).trans h1

/-- the blocks that calls write -/
def muts (sb mb : Nat) (wv : Value) (lp : Option Nat) : List Nat := sb :: mb :: (wv.ownBlock.toList ++ lp.toList)
def fpOf (M : List Nat) (X : List (Bs × Ent)) : List Nat := M ++ X.flatMap fun p => p.2.v.ownBlock.toList
theorem mem_fpOf {M : List Nat} {X : List (Bs × Ent)} {k : Nat} : k ∈ fpOf M X ↔ k ∈ M ∨ ∃ p ∈ X, p.2.v.ownBlock = some k := by
  unfold fpOf
  rw [List.mem_append, List.mem_flatMap]
  simp [Option.mem_toList]

/-- bytes that are read alone -/
structure EntOk (w : World) (M : List Nat) (e : Ent) : Prop where
  rd : RdB w e.v e.b
  n : e.n = e.b.length
  le : e.n ≤ e.c
  cap : e.c ≤ 9223372036854775807
  far : ∀ k, e.v.ownBlock = some k → k ∉ M ∧ k < w.heap.size
theorem EntOk.same {w w' : World} {M : List Nat} {e : Ent} (h : EntOk w M e) (hk : ∀ k, e.v.ownBlock = some k → w'.heap[k]? = w.heap[k]?) (hs : w.heap.size ≤ w'.heap.size) : EntOk w' M e :=
  ⟨h.rd.keep hk, h.n, h.le, h.cap, fun k hk => ⟨(h.far k hk).1, Nat.lt_of_lt_of_le (h.far k hk).2 hs⟩⟩

/-- what lies where -/
structure FsIn (w : World) (sb : Nat) (s : FsS) (mb : Nat) (wv : Value) (lp : Option Nat) (E L : List (Bs × Ent)) : Prop where
  blk : w.heap[sb]? = some (.cells #[.int .i64 s.room, .map (some mb), wv, .pointer (lp.map fun b => ⟨b, 0, none⟩), .bool s.halted] 64 (0, 0))
  map : FsMap w mb E
  row : w.ownsRow 0 74 2 wv L.length (eflat L)
  left : LeftAt w lp s.left
  files : s.files = E.map ct
  waits : s.waits = L.map ct
  ent : ∀ p ∈ E ++ L, EntOk w (muts sb mb wv lp) p.2
  nd : (muts sb mb wv lp).Nodup

/-- a file system at block sb, all of it in the blocks F -/
def FsRep (w : World) (sb : Nat) (s : FsS) (F : List Nat) : Prop := ∃ mb wv lp E L, FsIn w sb s mb wv lp E L ∧ F = fpOf (muts sb mb wv lp) (E ++ L)

theorem FsIn.mut_lt {w : World} {sb mb : Nat} {s : FsS} {wv : Value} {lp : Option Nat} {E L : List (Bs × Ent)} (h : FsIn w sb s mb wv lp E L) : ∀ k ∈ muts sb mb wv lp, k < w.heap.size := by
  intro k hk
  unfold muts at hk
  simp only [List.mem_cons, List.mem_append, Option.mem_toList] at hk
  rcases hk with rfl | rfl | hk | hk
  · exact (Array.getElem?_eq_some_iff.1 h.blk).1
  · exact h.map.lt
  · exact (h.row.lt k hk).2
  · rcases h.left.cases with ⟨rfl, _⟩ | ⟨b, n, rfl, _, h1⟩
    · cases hk
    · simp only [Option.some.injEq] at hk
      subst hk
      exact (Array.getElem?_eq_some_iff.1 h1).1
theorem FsIn.fp_lt {w : World} {sb mb : Nat} {s : FsS} {wv : Value} {lp : Option Nat} {E L : List (Bs × Ent)} (h : FsIn w sb s mb wv lp E L) : ∀ k ∈ fpOf (muts sb mb wv lp) (E ++ L), k < w.heap.size := by
  intro k hk
  rcases mem_fpOf.1 hk with hk | ⟨p, hp, hk⟩
  · exact h.mut_lt k hk
  · exact ((h.ent p hp).far k hk).2
theorem FsRep.lt {w : World} {sb : Nat} {s : FsS} {F : List Nat} (h : FsRep w sb s F) : ∀ k ∈ F, k < w.heap.size := by
  obtain ⟨mb, wv, lp, E, L, h, rfl⟩ := h
  exact h.fp_lt
theorem FsIn.same {w w' : World} {sb mb : Nat} {s : FsS} {wv : Value} {lp : Option Nat} {E L : List (Bs × Ent)} (h : FsIn w sb s mb wv lp E L) (hk : ∀ k ∈ fpOf (muts sb mb wv lp) (E ++ L), w'.heap[k]? = w.heap[k]?) (hs : w.heap.size ≤ w'.heap.size) : FsIn w' sb s mb wv lp E L := by
  have hm : ∀ k ∈ muts sb mb wv lp, w'.heap[k]? = w.heap[k]? := fun k h => hk k (mem_fpOf.2 (.inl h))
  refine ⟨(hm sb (by simp [muts])).trans h.blk, h.map.same (hm mb (by simp [muts])), ownsRow_same h.row fun b hb => hm b (by simp [muts, hb]), h.left.same fun b hb => hm b (by simp [muts, hb]), h.files, h.waits, fun p hp => (h.ent p hp).same (fun k hk' => hk k (mem_fpOf.2 (.inr ⟨p, hp, hk'⟩))) hs, h.nd⟩
theorem FsRep.same {w w' : World} {sb : Nat} {s : FsS} {F : List Nat} (h : FsRep w sb s F) (hk : ∀ k ∈ F, w'.heap[k]? = w.heap[k]?) (hs : w.heap.size ≤ w'.heap.size) : FsRep w' sb s F := by
  obtain ⟨mb, wv, lp, E, L, h, rfl⟩ := h
  exact ⟨mb, wv, lp, E, L, h.same hk hs, rfl⟩
theorem FsRep.low {w w' : World} {sb : Nat} {s : FsS} {F : List Nat} (h : FsRep w sb s F) (hb : Below w.heap.size w w') : FsRep w' sb s F := h.same (fun k hk => hb.block k (h.lt k hk)) hb.size
theorem FsRep.chg {w w' : World} {sb : Nat} {s : FsS} {F G G' : List Nat} (h : FsRep w sb s F) (hc : Chg G G' w w') (hd : ∀ k ∈ F, k ∉ G) : FsRep w' sb s F := h.same (fun k hk => hc.block k (h.lt k hk) (hd k hk)) hc.size

/-- what comes of a file system -/
def FsTo (w : World) (sb : Nat) (F : List Nat) (s : FsS) (w' : World) : Prop := ∃ F', FsRep w' sb s F' ∧ Chg F F' w w'

theorem fs_cells {w : World} {sb : Nat} {v0 v1 v2 v3 v4 : Value} {t : TypeId} (h : w.heap[sb]? = some (.cells #[v0, v1, v2, v3, v4] t (0, 0))) :
    w.cell? ⟨sb, 0, none⟩ = some v0 ∧ w.cell? ⟨sb, 1, none⟩ = some v1 ∧ w.cell? ⟨sb, 2, none⟩ = some v2 ∧ w.cell? ⟨sb, 3, none⟩ = some v3 ∧ w.cell? ⟨sb, 4, none⟩ = some v4 ∧ ∀ i, w.frozen? ⟨sb, i, none⟩ = false := by
  simp [World.cell?, World.frozen?, h]

/-- the same with other blocks written or new: what a call leaves -/
theorem FsIn.to {w w' : World} {sb mb mb' : Nat} {s s' : FsS} {wv wv' : Value} {lp lp' : Option Nat} {E L E' L' : List (Bs × Ent)} (h : FsIn w sb s mb wv lp E L) (h' : FsIn w' sb s' mb' wv' lp' E' L')
    (hos : w'.os = w.os) (hta : w'.tape = w.tape) (hou : w'.output = w.output) (hsz : w.heap.size ≤ w'.heap.size) (hb : ∀ k, k < w.heap.size → k ∉ muts sb mb wv lp → w'.heap[k]? = w.heap[k]?)
    (hm : ∀ k ∈ muts sb mb' wv' lp', k ∈ muts sb mb wv lp ∨ w.heap.size ≤ k) (he : ∀ p ∈ E' ++ L', ∀ k, p.2.v.ownBlock = some k → (∃ q ∈ E ++ L, q.2.v.ownBlock = some k) ∨ w.heap.size ≤ k) : FsTo w sb (fpOf (muts sb mb wv lp) (E ++ L)) s' w' := by
  refine ⟨_, ⟨mb', wv', lp', E', L', h', rfl⟩, hos, hta, hou, hsz, fun k hk hn => hb k hk fun hm => hn (mem_fpOf.2 (.inl hm)), fun k hk => ?_⟩
  rcases mem_fpOf.1 hk with hk | ⟨p, hp, hk⟩
  · exact (hm k hk).imp (fun h => mem_fpOf.2 (.inl h)) id
  · exact (he p hp k hk).imp (fun h => mem_fpOf.2 (.inr h)) id

theorem fs_New (room : Int) (h0 : 0 ≤ room) (h1 : room ≤ 1048576) (w : World) : Calls Tryd.prog 13 #[.int .i64 room] w fun e w' => ∃ sb F, e = .returned (.pointer (some ⟨sb, 0, none⟩)) ∧ FsRep w' sb (fsNew room) F ∧ (∀ k ∈ F, w.heap.size ≤ k) ∧ Below w.heap.size w w' := by
  have i0 : ¬ (room < 0) := by omega
  have i1 : ¬ (1048576 < room) := by omega
  have hmm := @run_makeMap Tryd.prog
  go_enter Tryd.func13, Tryd.ntmps13
  go_wp2
  go_ret
  have hb1 : Below w.heap.size w (w.alloc (.map #[] 0)) := below_alloc w _
  have hb2 := hb1.trans ((below_alloc (w.alloc (.map #[] 0)) (.cells #[.int .i64 room, .map (some w.heap.size), .slice none 0 0, .pointer none, .bool false] 64)).mono (by simp))
  refine ⟨w.heap.size + 1, rfl, _, ⟨w.heap.size, .slice none 0 0, none, [], [], ⟨?_, ?_, World.ownsRow_nil _ _ _ _, trivial, rfl, rfl, (fun p hp => by cases hp), ?_⟩, rfl⟩, ?_, hb2⟩
  · have := heap_alloc_at (w.alloc (.map #[] 0)) (.cells #[.int .i64 room, .map (some w.heap.size), .slice none 0 0, .pointer none, .bool false] 64)
    simpa [fsNew] using this
  · exact (ownM_made w).low (below_alloc _ _)
  · simp [muts, Value.ownBlock]
  · intro k hk
    rcases mem_fpOf.1 hk with hk | ⟨p, hp, _⟩
    · simp [muts, Value.ownBlock] at hk
      omega
    · cases hp
theorem fs_New_none (room : Int) (h0 : room < 0 ∨ 1048576 < room) (w : World) : Calls Tryd.prog 13 #[.int .i64 room] w fun e w' => e = .returned (.pointer none) ∧ w = w' := by
  by_cases i0 : room < 0
  · go_enter Tryd.func13, Tryd.ntmps13
    go_wp2
    go_ret
    exact ⟨rfl, rfl⟩
  · have i1 : 1048576 < room := by omega
    go_enter Tryd.func13, Tryd.ntmps13
    go_wp2
    go_ret
    exact ⟨rfl, rfl⟩
end Go.Proofs.YtglgjakjhkdoaaaDoor
