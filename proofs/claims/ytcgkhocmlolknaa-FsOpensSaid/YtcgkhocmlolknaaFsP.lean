/-
  One file, as plain data: what is appended, synced, what a crash leaves.
-/
import Derived.Test.YtcgkhocmlolknaaFsO
namespace Go.Proofs.Ytcgkhocmlolknaa
open Go.RowKit Go.Maps
set_option linter.unusedVariables false
set_option linter.unusedSimpArgs false

structure One (k : Bs) (s : FsS) (B : Bs) (P : List Bs) : Prop where
  files : s.files = [(k, B)]
  waits : s.waits = P.map fun p => (k, p)
  left : s.left = none
  room : s.room = 10000

theorem mget_one (k B : Bs) : mget k [(k, B)] = some B := by simp [mget]
theorem mdel_one (k B : Bs) : mdel k [(k, B)] = [] := by simp [mdel]
theorem mput_one (k B C : Bs) : mput strL k C [(k, B)] = [(k, C)] := by simp [mput, mdel_one, mins]
theorem pieces_one (k : Bs) (P : List Bs) : pieces k (P.map fun p => (k, p)) = P.flatten := by
  unfold pieces
  induction P with
  | nil => rfl
  | cons p P ih => simp at ih ⊢; simpa using ih
theorem forgotten_one (k : Bs) (P : List Bs) : forgotten k (P.map fun p => (k, p)) = [] := by
  unfold forgotten
  rw [List.filter_eq_nil_iff]
  intro p hp
  obtain ⟨q, _, rfl⟩ := List.mem_map.1 hp
  simp
theorem total_one (k : Bs) (P : List Bs) : total (P.map fun p => (k, p)) = P.flatten.length := by
  unfold total
  induction P with
  | nil => rfl
  | cons p P ih => simp at ih ⊢; omega
theorem One.has {k : Bs} {s : FsS} {B : Bs} {P : List Bs} (h : One k s B P) : s.has k = true := by unfold FsS.has; rw [h.files, mget_one]; rfl
theorem One.get {k : Bs} {s : FsS} {B : Bs} {P : List Bs} (h : One k s B P) : s.get k = B ++ P.flatten := by unfold FsS.get; rw [h.files, h.waits, mget_one, pieces_one]; rfl
theorem One.used {k : Bs} {s : FsS} {B : Bs} {P : List Bs} (h : One k s B P) : s.used = B.length + P.flatten.length := by
  unfold FsS.used
  rw [h.files, h.waits, total_one]
  simp [total]
theorem One.goes {k : Bs} {s : FsS} {B : Bs} {P : List Bs} (h : One k s B P) : s.go = true ∧ s.went = s := by
  simp [FsS.go, FsS.went, h.left]
theorem one_new {k : Bs} (hk : named k = true) : One k (fsCreate (fsNew 10000) k).2 [] [] := by
  have e : fsCreate (fsNew 10000) k = (0, { fsNew 10000 with files := [(k, [])] }) := by
    unfold fsCreate
    rw [if_neg (by simp [hk]), if_neg (by simp [FsS.has, fsNew, mget]), if_neg (by simp [fsNew]), if_pos (by simp [FsS.go, fsNew])]
    rfl
  rw [e]
  exact ⟨rfl, rfl, rfl, rfl⟩
theorem One.append {k : Bs} {s : FsS} {B : Bs} {P : List Bs} (h : One k s B P) (b : Bs) (hl : B.length + P.flatten.length + b.length ≤ 10000) : ∃ P', One k (fsAppend s k b).2 B P' ∧ P'.flatten = P.flatten ++ b := by
  obtain ⟨g1, g2⟩ := h.goes
  by_cases h0 : b.length = 0
  · have hb : b = [] := List.eq_nil_of_length_eq_zero h0
    subst hb
    have e : fsAppend s k [] = (0, s) := by simp [fsAppend, h.has]
    rw [e]
    exact ⟨P, h, by simp⟩
  · have e : fsAppend s k b = (0, { s with waits := s.waits ++ [(k, b)] }) := by
      unfold fsAppend
      rw [if_neg (by simp [h.has]), if_neg h0, if_neg (by rw [h.room, h.used]; omega), if_pos g1, g2]
    rw [e]
    exact ⟨P ++ [b], ⟨h.files, by show s.waits ++ [(k, b)] = _; rw [h.waits]; simp, h.left, h.room⟩, by simp⟩
theorem One.sync {k : Bs} {s : FsS} {B : Bs} {P : List Bs} (h : One k s B P) : One k (fsSync s k).2 (B ++ P.flatten) [] := by
  obtain ⟨g1, g2⟩ := h.goes
  have e : fsSync s k = (0, { s with files := mput strL k (s.get k) s.files, waits := forgotten k s.waits }) := by
    unfold fsSync
    rw [if_neg (by simp [h.has]), if_pos g1, g2]
  rw [e]
  exact ⟨by show mput strL k (s.get k) s.files = _; rw [h.files, mput_one, h.get], by show forgotten k s.waits = _; rw [h.waits, forgotten_one]; rfl, h.left, h.room⟩

/-- at its place, or noughts, or less -/
def Fits (Q L : Bs) : Prop := Q.length ≤ L.length ∧ ∀ (j : Nat) (q : UInt8), Q[j]? = some q → q = 0 ∨ L[j]? = some q
theorem Fits.nil (L : Bs) : Fits [] L := ⟨by simp, fun j q h => by simp at h⟩
theorem Fits.longer {Q L : Bs} (h : Fits Q L) (M : Bs) : Fits Q (L ++ M) := by
  refine ⟨by have := h.1; simp; omega, fun j q hq => (h.2 j q hq).imp id fun h1 => ?_⟩
  rw [List.getElem?_append_left (List.getElem?_eq_some_iff.1 h1).1]
  exact h1
theorem Fits.more {Q L M : Bs} {g : Nat} (h : Fits Q L) (hg : Q.length + g = L.length) (T : Bs) (hT : ∃ R, M = T ++ R) : Fits (Q ++ List.replicate g 0 ++ T) (L ++ M) := by
  obtain ⟨R, rfl⟩ := hT
  refine ⟨by simp; omega, fun j q hq => ?_⟩
  rw [List.append_assoc] at hq
  by_cases h1 : j < Q.length
  · rw [List.getElem?_append_left h1] at hq
    rcases h.2 j q hq with h2 | h2
    · exact .inl h2
    · right
      rw [List.getElem?_append_left (List.getElem?_eq_some_iff.1 h2).1]
      exact h2
  · rw [List.getElem?_append_right (by omega)] at hq
    by_cases h2 : j - Q.length < g
    · rw [List.getElem?_append_left (by simpa using h2), List.getElem?_replicate] at hq
      rw [if_pos h2] at hq
      exact .inl (Option.some.inj hq).symm
    · rw [List.getElem?_append_right (by simp; omega)] at hq
      simp only [List.length_replicate] at hq
      right
      rw [List.getElem?_append_right (by omega), ← hq, List.getElem?_append_left]
      · congr 1
        omega
      · have := (List.getElem?_eq_some_iff.1 hq).1
        omega
theorem lastK_ge {K : List Bool} : ∀ {n i : Nat}, i < n → keptB K i = true → (i : Int) ≤ lastK K n
  | 0, i, h, _ => absurd h (Nat.not_lt_zero i)
  | n + 1, i, h, hk => by
    unfold lastK
    split
    · omega
    · rename_i hn
      have : i ≠ n := fun e => hn (by rw [← e]; exact hk)
      exact lastK_ge (by omega) hk
theorem crash_one {k : Bs} {s : FsS} {B : Bs} {P : List Bs} (h : One k s B P) (K : List Bool) (torn : Int) :
    ∀ i, i ≤ P.length → ∃ (Q : Bs) (G : List (Bs × Int)) (g : Nat), crashTo K torn (lastK K s.waits.length) s.waits s.files i = ([(k, B ++ Q)], G) ∧ gapOf k G = g ∧ Fits Q (P.take i).flatten ∧ ((i : Int) ≤ lastK K s.waits.length → Q.length + g = (P.take i).flatten.length)
  | 0, _ => ⟨[], [], 0, by simp [crashTo, h.files], rfl, Fits.nil _, fun _ => rfl⟩
  | i + 1, hi => by
    obtain ⟨Q, G, g, h1, h2, h3, h4⟩ := crash_one h K torn i (by omega)
    have hp : s.waits[i]? = some (k, P[i]) := by rw [h.waits, List.getElem?_map, List.getElem?_eq_getElem (by omega)]; rfl
    have hf : (P.take (i + 1)).flatten = (P.take i).flatten ++ P[i] := by rw [List.take_add_one, List.getElem?_eq_getElem (by omega), Option.toList_some, List.flatten_append]; simp
    have hwl : s.waits.length = P.length := by rw [h.waits, List.length_map]
    rw [crashTo, hp]
    simp only
    rw [h1, hf]
    unfold crashStep
    cases hk : keptB K i with
    | true =>
      have hge := lastK_ge (n := s.waits.length) (by omega) hk
      have h5 := h4 hge
      simp only [if_true]
      rw [mget_one, h2]
      simp only [Option.getD_some, Int.toNat_natCast]
      refine ⟨Q ++ List.replicate g 0 ++ tornB torn (lastK K s.waits.length) i P[i], mput strL k 0 G, 0, by rw [mput_one]; simp, by unfold gapOf; rw [mget_put_same]; rfl, h3.more h5 _ ?_, fun h6 => ?_⟩
      · unfold tornB
        split
        · exact ⟨P[i].drop torn.toNat, (List.take_append_drop _ _).symm⟩
        · exact ⟨[], by simp⟩
      · have : tornB torn (lastK K s.waits.length) i P[i] = P[i] := by
          unfold tornB
          rw [if_neg (by omega)]
        rw [this]
        simp only [List.length_append, List.length_replicate]
        omega
    | false =>
      simp only [Bool.false_eq_true, if_false]
      refine ⟨Q, mput strL k (gapOf k G + P[i].length) G, g + P[i].length, rfl, by unfold gapOf; rw [mget_put_same]; show gapOf k G + _ = _; rw [h2]; simp, h3.longer _, fun h6 => ?_⟩
      have := h4 (by omega)
      simp only [List.length_append]
      omega
theorem One.crash {k : Bs} {s : FsS} {B : Bs} {P : List Bs} (h : One k s B P) (K : List Bool) (torn : Int) : ∃ Q, One k (fsCrash s K torn) (B ++ Q) [] ∧ Fits Q P.flatten := by
  obtain ⟨Q, G, g, h1, h2, h3, h4⟩ := crash_one h K torn P.length (Nat.le_refl _)
  rw [List.take_length] at h3
  refine ⟨Q, ⟨?_, rfl, rfl, h.room⟩, h3⟩
  show (crashTo K torn (lastK K s.waits.length) s.waits s.files s.waits.length).1 = _
  have hwl : s.waits.length = P.length := by rw [h.waits, List.length_map]
  rw [show crashTo K torn (lastK K s.waits.length) s.waits s.files s.waits.length = crashTo K torn (lastK K s.waits.length) s.waits s.files P.length by rw [← hwl], h1]
theorem One.crash0 {k : Bs} {s : FsS} {B : Bs} (h : One k s B []) (K : List Bool) (torn : Int) : One k (fsCrash s K torn) B [] := by
  have hw : s.waits = [] := h.waits
  refine ⟨?_, rfl, rfl, h.room⟩
  show (crashTo K torn (lastK K s.waits.length) s.waits s.files s.waits.length).1 = _
  rw [hw]
  exact h.files
end Go.Proofs.Ytcgkhocmlolknaa
