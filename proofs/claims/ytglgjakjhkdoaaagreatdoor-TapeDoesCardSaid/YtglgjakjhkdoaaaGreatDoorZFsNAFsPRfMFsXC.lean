/-
Rename keeps what is so.
One file, as plain data: what is appended, synced, what a crash leaves.
Rename keeps what is so; two file systems beside one another; one file, by its pieces.
Files by rising names: plain laws. No program.
Small laws of files that lie in memory.
-/
import Derived.Test.YtglgjakjhkdoaaaGreatDoorZFsNFsOA
import Derived.Test.YtglgjakjhkdoaaaGreatDoorZFsV
namespace Go.Proofs.YtglgjakjhkdoaaaGreatDoor
open Go.RowKit Go.Maps
set_option linter.unusedVariables false
set_option linter.unusedSimpArgs false

theorem total_swap (a b : Bs) (L : List (Bs × Bs)) : total (L.map fun p => if p.1 = a then (b, p.2) else p) = total L := by
  unfold total
  rw [List.map_map]
  congr 1
  apply List.map_congr_left
  intro p _
  show (if p.1 = a then (b, p.2) else p).2.length = p.2.length
  split <;> rfl
theorem fsRename_ok {s : FsS} (h : s.Ok) (a b : Bs) : (fsRename s a b).2.Ok := by
  unfold fsRename
  split
  · exact h
  · rename_i hh
    have ha : s.has a = true := by simpa using hh
    split
    · exact h
    · rename_i hn
      have hb : named b = true := by simpa using hn
      split
      · exact h
      · rename_i hab
        split
        · obtain ⟨v, hv⟩ : ∃ v, mget a s.files = some v := Option.isSome_iff_exists.1 ha
          have hm : mget a (mput strL b v s.files) = some v := by rw [mget_put_other strL hab]; exact hv
          have h1 := mget_total hm
          rw [mput_total] at h1
          have h2 := mdel_total b s.files
          have h3 : total (forgotten b s.waits) ≤ total s.waits := total_filter_le _ _
          rw [hv, Option.getD_some]
          refine ok_with h _ _ ?_ ?_ (fun p hp => mput_names h hb v p ((mdel_mem _ _ _).1 hp).1) fun p hp => ?_
          · rw [total_swap]
            unfold FsS.used
            omega
          · have := mdel_length_has (k := a) (E := mput strL b v s.files) (by rw [hm]; rfl)
            have := mput_length strL b v s.files
            have := h.few
            omega
          · obtain ⟨q, hq, rfl⟩ := List.mem_map.1 hp
            have hq' := hq
            unfold forgotten at hq'
            obtain ⟨h4, h5⟩ := List.mem_filter.1 hq'
            obtain ⟨h6, h7⟩ := h.piece q h4
            have h8 : q.1 ≠ b := by simpa using h5
            by_cases e : q.1 = a
            · simp only [if_pos e]
              refine ⟨h6, ?_⟩
              rw [mget_del_other (Ne.symm hab), mget_put_same]
              rfl
            · simp only [if_neg e]
              refine ⟨h6, ?_⟩
              rw [mget_del_other e, mget_put_other strL h8]
              exact h7
        · exact h.went
end Go.Proofs.YtglgjakjhkdoaaaGreatDoor

namespace Go.Proofs.YtglgjakjhkdoaaaGreatDoor
open Go.RowKit Go.Maps
set_option linter.unusedVariables false
set_option linter.unusedSimpArgs false

structure One (k : Bs) (s : FsS) (B : Bs) (P : List Bs) : Prop where
  files : s.files = [(k, B)]
  waits : s.waits = P.map fun p => (k, p)
  left : s.left = none
  room : s.room = 10000

theorem mget_one (k B : Bs) : mget k [(k, B)] = some B := by simp [mget]
theorem mdel_one (k B : Bs) : mdel k [(k, B)] = [] := by simp [mdel]
theorem mput_one (k B C : Bs) : mput strL k C [(k, B)] = [(k, C)] := by simp [mput, mdel_one, mins]
theorem pieces_one (k : Bs) (P : List Bs) : pieces k (P.map fun p => (k, p)) = P.flatten := by
  unfold pieces
  induction P with
  | nil => rfl
  | cons p P ih => simp at ih ⊢; simpa using ih
theorem forgotten_one (k : Bs) (P : List Bs) : forgotten k (P.map fun p => (k, p)) = [] := by
  unfold forgotten
  rw [List.filter_eq_nil_iff]
  intro p hp
  obtain ⟨q, _, rfl⟩ := List.mem_map.1 hp
  simp
theorem total_one (k : Bs) (P : List Bs) : total (P.map fun p => (k, p)) = P.flatten.length := by
  unfold total
  induction P with
  | nil => rfl
  | cons p P ih => simp at ih ⊢; omega
theorem One.has {k : Bs} {s : FsS} {B : Bs} {P : List Bs} (h : One k s B P) : s.has k = true := by unfold FsS.has; rw [h.files, mget_one]; rfl
theorem One.get {k : Bs} {s : FsS} {B : Bs} {P : List Bs} (h : One k s B P) : s.get k = B ++ P.flatten := by unfold FsS.get; rw [h.files, h.waits, mget_one, pieces_one]; rfl
theorem One.used {k : Bs} {s : FsS} {B : Bs} {P : List Bs} (h : One k s B P) : s.used = B.length + P.flatten.length := by
  unfold FsS.used
  rw [h.files, h.waits, total_one]
  simp [total]
theorem One.goes {k : Bs} {s : FsS} {B : Bs} {P : List Bs} (h : One k s B P) : s.go = true ∧ s.went = s := by
  simp [FsS.go, FsS.went, h.left]
theorem one_new {k : Bs} (hk : named k = true) : One k (fsCreate (fsNew 10000) k).2 [] [] := by
  have e : fsCreate (fsNew 10000) k = (0, { fsNew 10000 with files := [(k, [])] }) := by
    unfold fsCreate
    rw [if_neg (by simp [hk]), if_neg (by simp [FsS.has, fsNew, mget]), if_neg (by simp [fsNew]), if_pos (by simp [FsS.go, fsNew])]
    rfl
  rw [e]
  exact ⟨rfl, rfl, rfl, rfl⟩
theorem One.append {k : Bs} {s : FsS} {B : Bs} {P : List Bs} (h : One k s B P) (b : Bs) (hl : B.length + P.flatten.length + b.length ≤ 10000) : ∃ P', One k (fsAppend s k b).2 B P' ∧ P'.flatten = P.flatten ++ b := by
  obtain ⟨g1, g2⟩ := h.goes
  by_cases h0 : b.length = 0
  · have hb : b = [] := List.eq_nil_of_length_eq_zero h0
    subst hb
    have e : fsAppend s k [] = (0, s) := by simp [fsAppend, h.has]
    rw [e]
    exact ⟨P, h, by simp⟩
  · have e : fsAppend s k b = (0, { s with waits := s.waits ++ [(k, b)] }) := by
      unfold fsAppend
      rw [if_neg (by simp [h.has]), if_neg h0, if_neg (by rw [h.room, h.used]; omega), if_pos g1, g2]
    rw [e]
    exact ⟨P ++ [b], ⟨h.files, by show s.waits ++ [(k, b)] = _; rw [h.waits]; simp, h.left, h.room⟩, by simp⟩
theorem One.sync {k : Bs} {s : FsS} {B : Bs} {P : List Bs} (h : One k s B P) : One k (fsSync s k).2 (B ++ P.flatten) [] := by
  obtain ⟨g1, g2⟩ := h.goes
  have e : fsSync s k = (0, { s with files := mput strL k (s.get k) s.files, waits := forgotten k s.waits }) := by
    unfold fsSync
    rw [if_neg (by simp [h.has]), if_pos g1, g2]
  rw [e]
  exact ⟨by show mput strL k (s.get k) s.files = _; rw [h.files, mput_one, h.get], by show forgotten k s.waits = _; rw [h.waits, forgotten_one]; rfl, h.left, h.room⟩

def Fits (Q L : Bs) : Prop := Q.length ≤ L.length ∧ ∀ (j : Nat) (q : UInt8), Q[j]? = some q → q = 0 ∨ L[j]? = some q
theorem Fits.nil (L : Bs) : Fits [] L := ⟨by simp, fun j q h => by simp at h⟩
theorem Fits.longer {Q L : Bs} (h : Fits Q L) (M : Bs) : Fits Q (L ++ M) := by
  refine ⟨by have := h.1; simp; omega, fun j q hq => (h.2 j q hq).imp id fun h1 => ?_⟩
  rw [List.getElem?_append_left (List.getElem?_eq_some_iff.1 h1).1]
  exact h1
theorem Fits.more {Q L M : Bs} {g : Nat} (h : Fits Q L) (hg : Q.length + g = L.length) (T : Bs) (hT : ∃ R, M = T ++ R) : Fits (Q ++ List.replicate g 0 ++ T) (L ++ M) := by
  obtain ⟨R, rfl⟩ := hT
  refine ⟨by simp; omega, fun j q hq => ?_⟩
  rw [List.append_assoc] at hq
  by_cases h1 : j < Q.length
  · rw [List.getElem?_append_left h1] at hq
    rcases h.2 j q hq with h2 | h2
    · exact .inl h2
    · right
      rw [List.getElem?_append_left (List.getElem?_eq_some_iff.1 h2).1]
      exact h2
  · rw [List.getElem?_append_right (by omega)] at hq
    by_cases h2 : j - Q.length < g
    · rw [List.getElem?_append_left (by simpa using h2), List.getElem?_replicate] at hq
      rw [if_pos h2] at hq
      exact .inl (Option.some.inj hq).symm
    · rw [List.getElem?_append_right (by simp; omega)] at hq
      simp only [List.length_replicate] at hq
      right
      rw [List.getElem?_append_right (by omega), ← hq, List.getElem?_append_left]
      · congr 1
        omega
      · have := (List.getElem?_eq_some_iff.1 hq).1
        omega
theorem lastK_ge {K : List Bool} : ∀ {n i : Nat}, i < n → keptB K i = true → (i : Int) ≤ lastK K n
  | 0, i, h, _ => absurd h (Nat.not_lt_zero i)
  | n + 1, i, h, hk => by
    unfold lastK
    split
    · omega
    · rename_i hn
      have : i ≠ n := fun e => hn (by rw [← e]; exact hk)
      exact lastK_ge (by omega) hk
theorem crash_one {k : Bs} {s : FsS} {B : Bs} {P : List Bs} (h : One k s B P) (K : List Bool) (torn : Int) :
    ∀ i, i ≤ P.length → ∃ (Q : Bs) (G : List (Bs × Int)) (g : Nat), crashTo K torn (lastK K s.waits.length) s.waits s.files i = ([(k, B ++ Q)], G) ∧ gapOf k G = g ∧ Fits Q (P.take i).flatten ∧ ((i : Int) ≤ lastK K s.waits.length → Q.length + g = (P.take i).flatten.length)
  | 0, _ => ⟨[], [], 0, by simp [crashTo, h.files], rfl, Fits.nil _, fun _ => rfl⟩
  | i + 1, hi => by
    obtain ⟨Q, G, g, h1, h2, h3, h4⟩ := crash_one h K torn i (by omega)
    have hp : s.waits[i]? = some (k, P[i]) := by rw [h.waits, List.getElem?_map, List.getElem?_eq_getElem (by omega)]; rfl
    have hf : (P.take (i + 1)).flatten = (P.take i).flatten ++ P[i] := by rw [List.take_add_one, List.getElem?_eq_getElem (by omega), Option.toList_some, List.flatten_append]; simp
    have hwl : s.waits.length = P.length := by rw [h.waits, List.length_map]
    rw [crashTo, hp]
    simp only
    rw [h1, hf]
    unfold crashStep
    cases hk : keptB K i with
    | true =>
      have hge := lastK_ge (n := s.waits.length) (by omega) hk
      have h5 := h4 hge
      simp only [if_true]
      rw [mget_one, h2]
      simp only [Option.getD_some, Int.toNat_natCast]
      refine ⟨Q ++ List.replicate g 0 ++ tornB torn (lastK K s.waits.length) i P[i], mput strL k 0 G, 0, by rw [mput_one]; simp, by unfold gapOf; rw [mget_put_same]; rfl, h3.more h5 _ ?_, fun h6 => ?_⟩
      · unfold tornB
        split
        · exact ⟨P[i].drop torn.toNat, (List.take_append_drop _ _).symm⟩
        · exact ⟨[], by simp⟩
      · have : tornB torn (lastK K s.waits.length) i P[i] = P[i] := by
          unfold tornB
          rw [if_neg (by omega)]
        rw [this]
        simp only [List.length_append, List.length_replicate]
        omega
    | false =>
      simp only [Bool.false_eq_true, if_false]
      refine ⟨Q, mput strL k (gapOf k G + P[i].length) G, g + P[i].length, rfl, by unfold gapOf; rw [mget_put_same]; show gapOf k G + _ = _; rw [h2]; simp, h3.longer _, fun h6 => ?_⟩
      have := h4 (by omega)
      simp only [List.length_append]
      omega
theorem One.crash {k : Bs} {s : FsS} {B : Bs} {P : List Bs} (h : One k s B P) (K : List Bool) (torn : Int) : ∃ Q, One k (fsCrash s K torn) (B ++ Q) [] ∧ Fits Q P.flatten := by
  obtain ⟨Q, G, g, h1, h2, h3, h4⟩ := crash_one h K torn P.length (Nat.le_refl _)
  rw [List.take_length] at h3
  refine ⟨Q, ⟨?_, rfl, rfl, h.room⟩, h3⟩
  show (crashTo K torn (lastK K s.waits.length) s.waits s.files s.waits.length).1 = _
  have hwl : s.waits.length = P.length := by rw [h.waits, List.length_map]
  rw [show crashTo K torn (lastK K s.waits.length) s.waits s.files s.waits.length = crashTo K torn (lastK K s.waits.length) s.waits s.files P.length by rw [← hwl], h1]
theorem One.crash0 {k : Bs} {s : FsS} {B : Bs} (h : One k s B []) (K : List Bool) (torn : Int) : One k (fsCrash s K torn) B [] := by
  have hw : s.waits = [] := h.waits
  refine ⟨?_, rfl, rfl, h.room⟩
  show (crashTo K torn (lastK K s.waits.length) s.waits s.files s.waits.length).1 = _
  rw [hw]
  exact h.files
end Go.Proofs.YtglgjakjhkdoaaaGreatDoor

namespace Go.Proofs.YtglgjakjhkdoaaaGreatDoor
open Go.RowKit Go.Maps
set_option linter.unusedVariables false
set_option linter.unusedSimpArgs false

structure Two (W w : World) (p : Nat) (S : FsS) (F : List Nat) (q : Nat) (T : FsS) (G : List Nat) : Prop where
  a : FsOwn W w p S F
  b : FsOwn W w q T G
  far : ∀ k ∈ F, k ∉ G
theorem Two.symm {W w : World} {p q : Nat} {S T : FsS} {F G : List Nat} (h : Two W w p S F q T G) : Two W w q T G p S F := ⟨h.b, h.a, fun k hk hm => h.far k hm hk⟩
theorem Two.step {W w w' : World} {p q : Nat} {S T S' : FsS} {F G : List Nat} (h : Two W w p S F q T G) (ht : FsTo w p F S' w') (ok : S'.Ok) : ∃ F', Two W w' p S' F' q T G := by
  obtain ⟨F', h1, h2⟩ := h.a.step ht ok
  refine ⟨F', h1, ⟨h.b.rep.chg h2 fun k hk hm => h.far k hm hk, h.b.up, h1.low, h.b.ok⟩, fun k hk hm => ?_⟩
  rcases h2.fresh k hk with h3 | h3
  · exact h.far k h3 hm
  · have := h.b.rep.lt k hm
    omega
theorem Two.then {W w w' : World} {p q : Nat} {S T : FsS} {F G : List Nat} (h : Two W w p S F q T G) (hb : Below w.heap.size w w') : Two W w' p S F q T G := ⟨h.a.then hb, h.b.then hb, h.far⟩

def oneS (k B : Bs) (P : List Bs) : FsS := ⟨10000, [(k, B)], P.map fun p => (k, p), none, false⟩
theorem oneS_one (k B : Bs) (P : List Bs) : One k (oneS k B P) B P := ⟨rfl, rfl, rfl, rfl⟩
theorem oneS_new {k : Bs} (hk : named k = true) : (fsCreate (fsNew 10000) k).2 = oneS k [] [] := by
  have e : fsCreate (fsNew 10000) k = (0, { fsNew 10000 with files := [(k, [])] }) := by
    unfold fsCreate
    rw [if_neg (by simp [hk]), if_neg (by simp [FsS.has, fsNew, mget]), if_neg (by simp [fsNew]), if_pos (by simp [FsS.go, fsNew])]
    rfl
  rw [e]
  rfl
def oneAp (B : Bs) (P : List Bs) (b : Bs) : List Bs := if b.length = 0 then P else if (10000 : Int) - ((B.length + P.flatten.length : Nat) : Int) < b.length then P else P ++ [b]
theorem oneS_append (k B : Bs) (P : List Bs) (b : Bs) : (fsAppend (oneS k B P) k b).2 = oneS k B (oneAp B P b) := by
  have h := oneS_one k B P
  obtain ⟨g1, g2⟩ := h.goes
  unfold fsAppend oneAp
  rw [if_neg (by simp [h.has]), h.used, h.room]
  by_cases h0 : b.length = 0
  · rw [if_pos h0, if_pos h0]
  · rw [if_neg h0, if_neg h0]
    by_cases h1 : (10000 : Int) - ((B.length + P.flatten.length : Nat) : Int) < b.length
    · rw [if_pos h1, if_pos h1]
    · rw [if_neg h1, if_neg h1, if_pos g1, g2]
      unfold oneS
      simp
theorem oneS_sync (k B : Bs) (P : List Bs) : (fsSync (oneS k B P) k).2 = oneS k (B ++ P.flatten) [] := by
  have h := oneS_one k B P
  obtain ⟨g1, g2⟩ := h.goes
  unfold fsSync
  rw [if_neg (by simp [h.has]), if_pos g1, g2, h.get, h.files, mput_one, h.waits, forgotten_one]
  rfl
theorem oneS_rename (a b B : Bs) (P : List Bs) (hb : named b = true) (hab : a ≠ b) : fsRename (oneS a B P) a b = (0, oneS b B P) := by
  have h := oneS_one a B P
  obtain ⟨g1, g2⟩ := h.goes
  have e1 : mput strL b B [(a, B)] = mins strL (b, B) [(a, B)] := by
    unfold mput mdel
    simp [hab]
  have e2 : mdel a (mput strL b B [(a, B)]) = [(b, B)] := by
    rw [e1]
    unfold mins mdel
    split <;> simp [Ne.symm hab, mins]
  have e3 : (forgotten b (P.map fun p => (a, p))).map (fun p => if p.1 = a then (b, p.2) else p) = P.map fun p => (b, p) := by
    unfold forgotten
    rw [List.filter_eq_self.2 (by intro p hp; obtain ⟨q, _, rfl⟩ := List.mem_map.1 hp; simpa using hab), List.map_map]
    apply List.map_congr_left
    intro p _
    simp
  unfold fsRename
  rw [if_neg (by simp [h.has]), if_neg (by simp [hb]), if_neg hab, if_pos g1, g2, h.files, h.waits, mget_one, Option.getD_some, e2, e3]
  rfl
end Go.Proofs.YtglgjakjhkdoaaaGreatDoor

namespace Go.Proofs.YtglgjakjhkdoaaaGreatDoor
open Go.RowKit Go.Maps
set_option linter.unusedVariables false
set_option linter.unusedSimpArgs false

def Rises {ν : Type} (L : List (Bs × ν)) : Prop := L.Pairwise fun p q => bytesBefore p.1 q.1 = true
theorem before_irr : ∀ a : Bs, bytesBefore a a = false
  | [] => rfl
  | a :: r => by
    unfold bytesBefore
    rw [before_irr r]
    simp
theorem before_trans : ∀ {a b c : Bs}, bytesBefore a b = true → bytesBefore b c = true → bytesBefore a c = true
  | [], [], _, h, _ => by simp [bytesBefore] at h
  | [], _ :: _, [], _, h => by simp [bytesBefore] at h
  | [], _ :: _, _ :: _, _, _ => by simp [bytesBefore]
  | _ :: _, [], _, h, _ => by simp [bytesBefore] at h
  | _ :: _, _ :: _, [], _, h => by simp [bytesBefore] at h
  | a :: r, b :: s, c :: t, h, k => by
    simp only [bytesBefore, Bool.or_eq_true, decide_eq_true_eq, Bool.and_eq_true, beq_iff_eq] at h k ⊢
    rcases h with h | ⟨rfl, h⟩
    · rcases k with k | ⟨rfl, k⟩
      · exact .inl (UInt8.lt_trans h k)
      · exact .inl h
    · rcases k with k | ⟨rfl, k⟩
      · exact .inl k
      · exact .inr ⟨rfl, before_trans h k⟩
theorem before_asym {a b : Bs} (h : bytesBefore a b = true) : bytesBefore b a = false := by
  cases h2 : bytesBefore b a with
  | false => rfl
  | true => have := before_trans h h2; rw [before_irr] at this; cases this
theorem before_tri : ∀ a b : Bs, bytesBefore a b = true ∨ a = b ∨ bytesBefore b a = true
  | [], [] => .inr (.inl rfl)
  | [], _ :: _ => .inl (by simp [bytesBefore])
  | _ :: _, [] => .inr (.inr (by simp [bytesBefore]))
  | a :: r, b :: s => by
    simp only [bytesBefore, Bool.or_eq_true, decide_eq_true_eq, Bool.and_eq_true, beq_iff_eq]
    by_cases h : a < b
    · exact .inl (.inl h)
    · by_cases h2 : b < a
      · exact .inr (.inr (.inl h2))
      · have e : a = b := UInt8.le_antisymm (UInt8.not_lt.1 h2) (UInt8.not_lt.1 h)
        subst e
        rcases before_tri r s with h3 | rfl | h3
        · exact .inl (.inr ⟨rfl, h3⟩)
        · exact .inr (.inl rfl)
        · exact .inr (.inr (.inr ⟨rfl, h3⟩))
theorem Rises.nodup {ν : Type} {L : List (Bs × ν)} (h : Rises L) : L.Nodup := by
  unfold List.Nodup
  exact h.imp fun {p q} h2 e => by rw [e, before_irr] at h2; cases h2
theorem Rises.ne {ν : Type} {L : List (Bs × ν)} (h : Rises L) : L.Pairwise fun p q => p.1 ≠ q.1 := h.imp fun {p q} h2 e => by rw [e, before_irr] at h2; cases h2
theorem rises_ext {ν : Type} : ∀ {L M : List (Bs × ν)}, Rises L → Rises M → (∀ p, p ∈ L ↔ p ∈ M) → L = M
  | [], [], _, _, _ => rfl
  | [], q :: M, _, _, h => by have := (h q).2 (by simp); cases this
  | p :: L, [], _, _, h => by have := (h p).1 (by simp); cases this
  | p :: L, q :: M, hL, hM, h => by
    obtain ⟨l1, l2⟩ := List.pairwise_cons.1 hL
    obtain ⟨m1, m2⟩ := List.pairwise_cons.1 hM
    have e : p = q := by
      rcases List.mem_cons.1 ((h p).1 (by simp)) with h1 | h1
      · exact h1
      · rcases List.mem_cons.1 ((h q).2 (by simp)) with h2 | h2
        · exact h2.symm
        · have := before_asym (m1 p h1)
          rw [l1 q h2] at this
          cases this
    subst e
    congr 1
    refine rises_ext l2 m2 fun x => ⟨fun hx => ?_, fun hx => ?_⟩
    · rcases List.mem_cons.1 ((h x).1 (by simp [hx])) with h1 | h1
      · have := l1 x hx
        rw [h1, before_irr] at this
        cases this
      · exact h1
    · rcases List.mem_cons.1 ((h x).2 (by simp [hx])) with h1 | h1
      · have := m1 x hx
        rw [h1, before_irr] at this
        cases this
      · exact h1
theorem Rises.del {ν : Type} {L : List (Bs × ν)} (h : Rises L) (k : Bs) : Rises (mdel k L) := List.Pairwise.filter _ h
theorem Rises.take {ν : Type} {L : List (Bs × ν)} (h : Rises L) (i : Nat) : Rises (L.take i) := List.Pairwise.sublist (List.take_sublist _ _) h
theorem Rises.mins {ν : Type} {k : Bs} {v : ν} : ∀ {L : List (Bs × ν)}, Rises L → (∀ p ∈ L, p.1 ≠ k) → Rises (mins strL (k, v) L)
  | [], _, _ => by simp [Go.Proofs.YtglgjakjhkdoaaaGreatDoor.mins, Rises]
  | y :: r, h, hn => by
    obtain ⟨l1, l2⟩ := List.pairwise_cons.1 h
    unfold Go.Proofs.YtglgjakjhkdoaaaGreatDoor.mins
    split
    · rename_i hb
      refine .cons (fun q hq => ?_) h
      rcases List.mem_cons.1 hq with rfl | hq
      · exact hb
      · exact before_trans hb (l1 q hq)
    · rename_i hb
      refine .cons (fun q hq => ?_) (Rises.mins l2 fun p hp => hn p (by simp [hp]))
      rcases (mins_mem _ _ _ _).1 hq with rfl | hq
      · rcases before_tri k y.1 with h1 | h1 | h1
        · exact absurd h1 hb
        · exact absurd h1.symm (hn y (by simp))
        · exact h1
      · exact l1 q hq
theorem Rises.put {ν : Type} {L : List (Bs × ν)} (h : Rises L) (k : Bs) (v : ν) : Rises (mput strL k v L) :=
  (h.del k).mins fun p hp => ((mdel_mem _ _ _).1 hp).2
theorem Rises.map {ν μ : Type} {L : List (Bs × ν)} (h : Rises L) (f : Bs × ν → μ) : Rises (L.map fun p => (p.1, f p)) := by
  unfold Rises
  rw [List.pairwise_map]
  exact h
theorem Rises.get {ν : Type} {L : List (Bs × ν)} (h : Rises L) {p : Bs × ν} (hp : p ∈ L) : mget p.1 L = some p.2 := mget_of_mem (ok := fun _ => True) ⟨h.ne, fun _ _ => trivial⟩ hp
theorem rises_get_ext {ν : Type} {L M : List (Bs × ν)} (hL : Rises L) (hM : Rises M) (h : ∀ k, mget k L = mget k M) : L = M :=
  rises_ext hL hM fun p => ⟨fun hp => mget_mem ((h p.1).symm.trans (hL.get hp)), fun hp => mget_mem ((h p.1).trans (hM.get hp))⟩

def posF {ν : Type} (k : Bs) (L : List (Bs × ν)) : Nat := (L.takeWhile fun p => bytesBefore p.1 k).length
theorem posF_le {ν : Type} (k : Bs) (L : List (Bs × ν)) : posF k L ≤ L.length := (List.takeWhile_prefix _).length_le
theorem posF_spec {ν : Type} {k : Bs} {L : List (Bs × ν)} {i : Nat} (hi : i ≤ L.length) (h0 : ∀ j p, j < i → L[j]? = some p → bytesBefore p.1 k = true) (h1 : ∀ p, L[i]? = some p → bytesBefore p.1 k = false) : posF k L = i := by
  induction L generalizing i with
  | nil => simp at hi; subst hi; rfl
  | cons y r ih =>
    unfold posF at ih ⊢
    cases i with
    | zero =>
      have := h1 y (by simp)
      simp [this]
    | succ i =>
      have h2 := h0 0 y (by omega) (by simp)
      rw [List.takeWhile_cons, if_pos h2, List.length_cons]
      rw [ih (i := i) (by simpa using hi) (fun j p hj hp => h0 (j + 1) p (by omega) (by simpa using hp)) fun p hp => h1 p (by simpa using hp)]
theorem posF_lt {ν : Type} {k : Bs} {L : List (Bs × ν)} {j : Nat} {p : Bs × ν} (hj : j < posF k L) (hp : L[j]? = some p) : bytesBefore p.1 k = true := by
  induction L generalizing j with
  | nil => simp at hp
  | cons y r ih =>
    unfold posF at ih hj
    rw [List.takeWhile_cons] at hj
    split at hj
    · rename_i h
      cases j with
      | zero => simp at hp; subst hp; exact h
      | succ j => exact ih (by simpa using hj) (by simpa using hp)
    · simp at hj
theorem posF_at {ν : Type} {k : Bs} {L : List (Bs × ν)} {p : Bs × ν} (hp : L[posF k L]? = some p) : bytesBefore p.1 k = false := by
  induction L with
  | nil => simp at hp
  | cons y r ih =>
    unfold posF at ih hp
    rw [List.takeWhile_cons] at hp
    split at hp
    · exact ih (by simpa using hp)
    · rename_i h
      simp at hp
      subst hp
      simpa using h
theorem posF_has {ν : Type} {k : Bs} {L : List (Bs × ν)} (h : Rises L) (v : ν) : mget k L = some v ↔ L[posF k L]? = some (k, v) := by
  constructor
  · intro hg
    obtain ⟨j, hj⟩ := List.getElem?_of_mem (mget_mem hg)
    have hjl := (List.getElem?_eq_some_iff.1 hj).1
    have : posF k L = j := posF_spec (by omega) (fun i p hi hp => by
        have h2 := List.pairwise_iff_getElem.1 h i j (by omega) hjl hi
        rw [(List.getElem?_eq_some_iff.1 hj).2] at h2
        rw [← (List.getElem?_eq_some_iff.1 hp).2]
        exact h2) fun p hp => by rw [hj] at hp; simp only [Option.some.injEq] at hp; subst hp; exact before_irr k
    rw [this]
    exact hj
  · intro hp
    exact h.get (List.mem_of_getElem? hp)
theorem posF_none {ν : Type} {k : Bs} {L : List (Bs × ν)} (h : Rises L) (hg : mget k L = none) {p : Bs × ν} (hp : L[posF k L]? = some p) : p.1 ≠ k := fun e => by
  have := h.get (List.mem_of_getElem? hp)
  rw [e, hg] at this
  cases this
theorem mins_pos {ν : Type} {k : Bs} {v : ν} : ∀ {L : List (Bs × ν)}, Rises L → (∀ p ∈ L, p.1 ≠ k) → mins strL (k, v) L = L.take (posF k L) ++ [(k, v)] ++ L.drop (posF k L)
  | [], _, _ => rfl
  | y :: r, h, hn => by
    obtain ⟨l1, l2⟩ := List.pairwise_cons.1 h
    unfold mins
    have hc : (strL (k, v).1).before (strL y.1) = bytesBefore k y.1 := rfl
    rw [hc]
    rcases before_tri k y.1 with h1 | h1 | h1
    · rw [if_pos h1]
      have : posF k (y :: r) = 0 := by unfold posF; rw [List.takeWhile_cons, if_neg (by rw [before_asym h1]; simp)]; rfl
      rw [this]
      rfl
    · exact absurd h1.symm (hn y (by simp))
    · rw [if_neg (by rw [before_asym h1]; simp)]
      have : posF k (y :: r) = posF k r + 1 := by unfold posF; rw [List.takeWhile_cons, if_pos h1]; rfl
      rw [this, mins_pos l2 fun p hp => hn p (by simp [hp])]
      rfl
theorem mdel_none {ν : Type} {k : Bs} {L : List (Bs × ν)} (h : mget k L = none) : mdel k L = L := by
  unfold mdel
  exact List.filter_eq_self.2 fun p hp => by simpa using mget_none h p hp
theorem mput_pos {ν : Type} {k : Bs} {v : ν} {L : List (Bs × ν)} (h : Rises L) (hg : mget k L = none) : mput strL k v L = L.take (posF k L) ++ [(k, v)] ++ L.drop (posF k L) := by
  unfold mput
  rw [mdel_none hg, mins_pos h (mget_none hg)]
theorem mput_set {ν : Type} {k : Bs} {v u : ν} {L : List (Bs × ν)} (h : Rises L) (hg : mget k L = some u) : mput strL k v L = L.set (posF k L) (k, v) := by
  have hp := (posF_has h u).1 hg
  have hlt := (List.getElem?_eq_some_iff.1 hp).1
  have hs : Rises (L.set (posF k L) (k, v)) := by
    refine List.pairwise_iff_getElem.2 fun i j hi hj hij => ?_
    have h2 := List.pairwise_iff_getElem.1 h i j (by simpa using hi) (by simpa using hj) hij
    rw [List.getElem_set, List.getElem_set]
    have hpe := (List.getElem?_eq_some_iff.1 hp).2
    split
    · rename_i e
      subst e
      rw [if_neg (by omega)]
      rw [hpe] at h2
      exact h2
    · split
      · rename_i e
        subst e
        rw [hpe] at h2
        exact h2
      · exact h2
  refine rises_ext (h.put k v) hs fun p => ?_
  rw [mput_mem]
  constructor
  · rintro (rfl | ⟨h1, h2⟩)
    · exact List.mem_iff_getElem?.2 ⟨posF k L, by rw [List.getElem?_set, if_pos rfl, if_pos hlt]⟩
    · obtain ⟨j, hj⟩ := List.getElem?_of_mem h1
      refine List.mem_iff_getElem?.2 ⟨j, ?_⟩
      rw [List.getElem?_set, if_neg ?_]
      · exact hj
      · rintro rfl
        rw [hp] at hj
        simp only [Option.some.injEq] at hj
        exact h2 (by rw [← hj])
  · intro h1
    obtain ⟨j, hj⟩ := List.getElem?_of_mem h1
    rw [List.getElem?_set] at hj
    split at hj
    · rename_i e
      simp only [Option.some.injEq] at hj
      exact .inl hj.symm
    · rename_i e
      refine .inr ⟨List.mem_of_getElem? hj, fun ek => e ?_⟩
      have h3 := h.get (List.mem_of_getElem? hj)
      rw [ek] at h3
      have h4 := (posF_has h p.2).1 h3
      exact (List.getElem?_inj hlt h.nodup).1 (by rw [h4, hj, ← ek])
end Go.Proofs.YtglgjakjhkdoaaaGreatDoor

namespace Go.Proofs.YtglgjakjhkdoaaaGreatDoor
open Go.RowKit Go.Maps
set_option linter.unusedVariables false
set_option linter.unusedSimpArgs false

theorem FilesAt.chg {B : Nat} {t : TypeId} {w w' : World} {v : Value} {L : List (Bs × Ent)} {F F' : List Nat} (h : FilesAt B t w v L) (hC : Chg F F' w w') (hd : ∀ k ∈ F, k < B) : FilesAt B t w' v L :=
  ⟨ownsRow_same h.row fun k hk => hC.block k (h.row.lt k hk).2 fun hm => by have := hd k hm; have := (h.row.lt k hk).1; omega,
   fun p hp => (h.ent p hp).same (fun k hk => hC.block k ((h.ent p hp).far k hk).2 fun hm => by have := hd k hm; have := h.ge p hp k hk; omega) hC.size, h.ge⟩
theorem tmod14 (k : Nat) : (k : Int).tmod 14 = ((k % 14 : Nat) : Int) := by
  rw [Int.tmod_eq_emod_of_nonneg (by omega)]
  omega
theorem fsFiles_len {s : FsS} (ok : s.Ok) : (fsFiles s).length ≤ 8 := by unfold fsFiles; rw [List.length_map]; exact ok.few
end Go.Proofs.YtglgjakjhkdoaaaGreatDoor
