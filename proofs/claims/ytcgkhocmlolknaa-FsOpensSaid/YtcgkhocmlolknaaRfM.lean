/-
  Files by rising names: plain laws. No program.
-/
import Derived.Test.YtcgkhocmlolknaaFsW
namespace Go.Proofs.Ytcgkhocmlolknaa
open Go.RowKit Go.Maps
set_option linter.unusedVariables false
set_option linter.unusedSimpArgs false

/-- names rise -/
def Rises {ν : Type} (L : List (Bs × ν)) : Prop := L.Pairwise fun p q => bytesBefore p.1 q.1 = true
theorem before_irr : ∀ a : Bs, bytesBefore a a = false
  | [] => rfl
  | a :: r => by
    unfold bytesBefore
    rw [before_irr r]
    simp
theorem before_trans : ∀ {a b c : Bs}, bytesBefore a b = true → bytesBefore b c = true → bytesBefore a c = true
  | [], [], _, h, _ => by simp [bytesBefore] at h
  | [], _ :: _, [], _, h => by simp [bytesBefore] at h
  | [], _ :: _, _ :: _, _, _ => by simp [bytesBefore]
  | _ :: _, [], _, h, _ => by simp [bytesBefore] at h
  | _ :: _, _ :: _, [], _, h => by simp [bytesBefore] at h
  | a :: r, b :: s, c :: t, h, k => by
    simp only [bytesBefore, Bool.or_eq_true, decide_eq_true_eq, Bool.and_eq_true, beq_iff_eq] at h k ⊢
    rcases h with h | ⟨rfl, h⟩
    · rcases k with k | ⟨rfl, k⟩
      · exact .inl (UInt8.lt_trans h k)
      · exact .inl h
    · rcases k with k | ⟨rfl, k⟩
      · exact .inl k
      · exact .inr ⟨rfl, before_trans h k⟩
theorem before_asym {a b : Bs} (h : bytesBefore a b = true) : bytesBefore b a = false := by
  cases h2 : bytesBefore b a with
  | false => rfl
  | true => have := before_trans h h2; rw [before_irr] at this; cases this
theorem before_tri : ∀ a b : Bs, bytesBefore a b = true ∨ a = b ∨ bytesBefore b a = true
  | [], [] => .inr (.inl rfl)
  | [], _ :: _ => .inl (by simp [bytesBefore])
  | _ :: _, [] => .inr (.inr (by simp [bytesBefore]))
  | a :: r, b :: s => by
    simp only [bytesBefore, Bool.or_eq_true, decide_eq_true_eq, Bool.and_eq_true, beq_iff_eq]
    by_cases h : a < b
    · exact .inl (.inl h)
    · by_cases h2 : b < a
      · exact .inr (.inr (.inl h2))
      · have e : a = b := UInt8.le_antisymm (UInt8.not_lt.1 h2) (UInt8.not_lt.1 h)
        subst e
        rcases before_tri r s with h3 | rfl | h3
        · exact .inl (.inr ⟨rfl, h3⟩)
        · exact .inr (.inl rfl)
        · exact .inr (.inr (.inr ⟨rfl, h3⟩))
theorem Rises.nodup {ν : Type} {L : List (Bs × ν)} (h : Rises L) : L.Nodup := by
  unfold List.Nodup
  exact h.imp fun {p q} h2 e => by rw [e, before_irr] at h2; cases h2
theorem Rises.ne {ν : Type} {L : List (Bs × ν)} (h : Rises L) : L.Pairwise fun p q => p.1 ≠ q.1 := h.imp fun {p q} h2 e => by rw [e, before_irr] at h2; cases h2
theorem rises_ext {ν : Type} : ∀ {L M : List (Bs × ν)}, Rises L → Rises M → (∀ p, p ∈ L ↔ p ∈ M) → L = M
  | [], [], _, _, _ => rfl
  | [], q :: M, _, _, h => by have := (h q).2 (by simp); cases this
  | p :: L, [], _, _, h => by have := (h p).1 (by simp); cases this
  | p :: L, q :: M, hL, hM, h => by
    obtain ⟨l1, l2⟩ := List.pairwise_cons.1 hL
    obtain ⟨m1, m2⟩ := List.pairwise_cons.1 hM
    have e : p = q := by
      rcases List.mem_cons.1 ((h p).1 (by simp)) with h1 | h1
      · exact h1
      · rcases List.mem_cons.1 ((h q).2 (by simp)) with h2 | h2
        · exact h2.symm
        · have := before_asym (m1 p h1)
          rw [l1 q h2] at this
          cases this
    subst e
    congr 1
    refine rises_ext l2 m2 fun x => ⟨fun hx => ?_, fun hx => ?_⟩
    · rcases List.mem_cons.1 ((h x).1 (by simp [hx])) with h1 | h1
      · have := l1 x hx
        rw [h1, before_irr] at this
        cases this
      · exact h1
    · rcases List.mem_cons.1 ((h x).2 (by simp [hx])) with h1 | h1
      · have := m1 x hx
        rw [h1, before_irr] at this
        cases this
      · exact h1
theorem Rises.del {ν : Type} {L : List (Bs × ν)} (h : Rises L) (k : Bs) : Rises (mdel k L) := List.Pairwise.filter _ h
theorem Rises.take {ν : Type} {L : List (Bs × ν)} (h : Rises L) (i : Nat) : Rises (L.take i) := List.Pairwise.sublist (List.take_sublist _ _) h
theorem Rises.mins {ν : Type} {k : Bs} {v : ν} : ∀ {L : List (Bs × ν)}, Rises L → (∀ p ∈ L, p.1 ≠ k) → Rises (mins strL (k, v) L)
  | [], _, _ => by simp [Go.Proofs.Ytcgkhocmlolknaa.mins, Rises]
  | y :: r, h, hn => by
    obtain ⟨l1, l2⟩ := List.pairwise_cons.1 h
    unfold Go.Proofs.Ytcgkhocmlolknaa.mins
    split
    · rename_i hb
      refine .cons (fun q hq => ?_) h
      rcases List.mem_cons.1 hq with rfl | hq
      · exact hb
      · exact before_trans hb (l1 q hq)
    · rename_i hb
      refine .cons (fun q hq => ?_) (Rises.mins l2 fun p hp => hn p (by simp [hp]))
      rcases (mins_mem _ _ _ _).1 hq with rfl | hq
      · rcases before_tri k y.1 with h1 | h1 | h1
        · exact absurd h1 hb
        · exact absurd h1.symm (hn y (by simp))
        · exact h1
      · exact l1 q hq
theorem Rises.put {ν : Type} {L : List (Bs × ν)} (h : Rises L) (k : Bs) (v : ν) : Rises (mput strL k v L) :=
  (h.del k).mins fun p hp => ((mdel_mem _ _ _).1 hp).2
theorem Rises.map {ν μ : Type} {L : List (Bs × ν)} (h : Rises L) (f : Bs × ν → μ) : Rises (L.map fun p => (p.1, f p)) := by
  unfold Rises
  rw [List.pairwise_map]
  exact h
theorem Rises.get {ν : Type} {L : List (Bs × ν)} (h : Rises L) {p : Bs × ν} (hp : p ∈ L) : mget p.1 L = some p.2 := mget_of_mem (ok := fun _ => True) ⟨h.ne, fun _ _ => trivial⟩ hp
theorem rises_get_ext {ν : Type} {L M : List (Bs × ν)} (hL : Rises L) (hM : Rises M) (h : ∀ k, mget k L = mget k M) : L = M :=
  rises_ext hL hM fun p => ⟨fun hp => mget_mem ((h p.1).symm.trans (hL.get hp)), fun hp => mget_mem ((h p.1).trans (hM.get hp))⟩

/-- those ahead of a name -/
def posF {ν : Type} (k : Bs) (L : List (Bs × ν)) : Nat := (L.takeWhile fun p => bytesBefore p.1 k).length
theorem posF_le {ν : Type} (k : Bs) (L : List (Bs × ν)) : posF k L ≤ L.length := (List.takeWhile_prefix _).length_le
theorem posF_spec {ν : Type} {k : Bs} {L : List (Bs × ν)} {i : Nat} (hi : i ≤ L.length) (h0 : ∀ j p, j < i → L[j]? = some p → bytesBefore p.1 k = true) (h1 : ∀ p, L[i]? = some p → bytesBefore p.1 k = false) : posF k L = i := by
  induction L generalizing i with
  | nil => simp at hi; subst hi; rfl
  | cons y r ih =>
    unfold posF at ih ⊢
    cases i with
    | zero =>
      have := h1 y (by simp)
      simp [this]
    | succ i =>
      have h2 := h0 0 y (by omega) (by simp)
      rw [List.takeWhile_cons, if_pos h2, List.length_cons]
      rw [ih (i := i) (by simpa using hi) (fun j p hj hp => h0 (j + 1) p (by omega) (by simpa using hp)) fun p hp => h1 p (by simpa using hp)]
theorem posF_lt {ν : Type} {k : Bs} {L : List (Bs × ν)} {j : Nat} {p : Bs × ν} (hj : j < posF k L) (hp : L[j]? = some p) : bytesBefore p.1 k = true := by
  induction L generalizing j with
  | nil => simp at hp
  | cons y r ih =>
    unfold posF at ih hj
    rw [List.takeWhile_cons] at hj
    split at hj
    · rename_i h
      cases j with
      | zero => simp at hp; subst hp; exact h
      | succ j => exact ih (by simpa using hj) (by simpa using hp)
    · simp at hj
theorem posF_at {ν : Type} {k : Bs} {L : List (Bs × ν)} {p : Bs × ν} (hp : L[posF k L]? = some p) : bytesBefore p.1 k = false := by
  induction L with
  | nil => simp at hp
  | cons y r ih =>
    unfold posF at ih hp
    rw [List.takeWhile_cons] at hp
    split at hp
    · exact ih (by simpa using hp)
    · rename_i h
      simp at hp
      subst hp
      simpa using h
/-- is the name there? just if it stands at its place -/
theorem posF_has {ν : Type} {k : Bs} {L : List (Bs × ν)} (h : Rises L) (v : ν) : mget k L = some v ↔ L[posF k L]? = some (k, v) := by
  constructor
  · intro hg
    obtain ⟨j, hj⟩ := List.getElem?_of_mem (mget_mem hg)
    have hjl := (List.getElem?_eq_some_iff.1 hj).1
    have : posF k L = j := posF_spec (by omega) (fun i p hi hp => by
        have h2 := List.pairwise_iff_getElem.1 h i j (by omega) hjl hi
        rw [(List.getElem?_eq_some_iff.1 hj).2] at h2
        rw [← (List.getElem?_eq_some_iff.1 hp).2]
        exact h2) fun p hp => by rw [hj] at hp; simp only [Option.some.injEq] at hp; subst hp; exact before_irr k
    rw [this]
    exact hj
  · intro hp
    exact h.get (List.mem_of_getElem? hp)
theorem posF_none {ν : Type} {k : Bs} {L : List (Bs × ν)} (h : Rises L) (hg : mget k L = none) {p : Bs × ν} (hp : L[posF k L]? = some p) : p.1 ≠ k := fun e => by
  have := h.get (List.mem_of_getElem? hp)
  rw [e, hg] at this
  cases this
theorem mins_pos {ν : Type} {k : Bs} {v : ν} : ∀ {L : List (Bs × ν)}, Rises L → (∀ p ∈ L, p.1 ≠ k) → mins strL (k, v) L = L.take (posF k L) ++ [(k, v)] ++ L.drop (posF k L)
  | [], _, _ => rfl
  | y :: r, h, hn => by
    obtain ⟨l1, l2⟩ := List.pairwise_cons.1 h
    unfold mins
    have hc : (strL (k, v).1).before (strL y.1) = bytesBefore k y.1 := rfl
    rw [hc]
    rcases before_tri k y.1 with h1 | h1 | h1
    · rw [if_pos h1]
      have : posF k (y :: r) = 0 := by unfold posF; rw [List.takeWhile_cons, if_neg (by rw [before_asym h1]; simp)]; rfl
      rw [this]
      rfl
    · exact absurd h1.symm (hn y (by simp))
    · rw [if_neg (by rw [before_asym h1]; simp)]
      have : posF k (y :: r) = posF k r + 1 := by unfold posF; rw [List.takeWhile_cons, if_pos h1]; rfl
      rw [this, mins_pos l2 fun p hp => hn p (by simp [hp])]
      rfl
theorem mdel_none {ν : Type} {k : Bs} {L : List (Bs × ν)} (h : mget k L = none) : mdel k L = L := by
  unfold mdel
  exact List.filter_eq_self.2 fun p hp => by simpa using mget_none h p hp
theorem mput_pos {ν : Type} {k : Bs} {v : ν} {L : List (Bs × ν)} (h : Rises L) (hg : mget k L = none) : mput strL k v L = L.take (posF k L) ++ [(k, v)] ++ L.drop (posF k L) := by
  unfold mput
  rw [mdel_none hg, mins_pos h (mget_none hg)]
theorem mput_set {ν : Type} {k : Bs} {v u : ν} {L : List (Bs × ν)} (h : Rises L) (hg : mget k L = some u) : mput strL k v L = L.set (posF k L) (k, v) := by
  have hp := (posF_has h u).1 hg
  have hlt := (List.getElem?_eq_some_iff.1 hp).1
  have hs : Rises (L.set (posF k L) (k, v)) := by
    refine List.pairwise_iff_getElem.2 fun i j hi hj hij => ?_
    have h2 := List.pairwise_iff_getElem.1 h i j (by simpa using hi) (by simpa using hj) hij
    rw [List.getElem_set, List.getElem_set]
    have hpe := (List.getElem?_eq_some_iff.1 hp).2
    split
    · rename_i e
      subst e
      rw [if_neg (by omega)]
      rw [hpe] at h2
      exact h2
    · split
      · rename_i e
        subst e
        rw [hpe] at h2
        exact h2
      · exact h2
  refine rises_ext (h.put k v) hs fun p => ?_
  rw [mput_mem]
  constructor
  · rintro (rfl | ⟨h1, h2⟩)
    · exact List.mem_iff_getElem?.2 ⟨posF k L, by rw [List.getElem?_set, if_pos rfl, if_pos hlt]⟩
    · obtain ⟨j, hj⟩ := List.getElem?_of_mem h1
      refine List.mem_iff_getElem?.2 ⟨j, ?_⟩
      rw [List.getElem?_set, if_neg ?_]
      · exact hj
      · rintro rfl
        rw [hp] at hj
        simp only [Option.some.injEq] at hj
        exact h2 (by rw [← hj])
  · intro h1
    obtain ⟨j, hj⟩ := List.getElem?_of_mem h1
    rw [List.getElem?_set] at hj
    split at hj
    · rename_i e
      simp only [Option.some.injEq] at hj
      exact .inl hj.symm
    · rename_i e
      refine .inr ⟨List.mem_of_getElem? hj, fun ek => e ?_⟩
      have h3 := h.get (List.mem_of_getElem? hj)
      rw [ek] at h3
      have h4 := (posF_has h p.2).1 h3
      exact (List.getElem?_inj hlt h.nodup).1 (by rw [h4, hj, ← ek])
end Go.Proofs.Ytcgkhocmlolknaa
