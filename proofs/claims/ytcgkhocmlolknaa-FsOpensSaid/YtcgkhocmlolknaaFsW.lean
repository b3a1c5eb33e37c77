/-
  Rename keeps what is so; two file systems beside one another; one file, by its pieces.
-/
import Derived.Test.YtcgkhocmlolknaaFsV
import Derived.Test.YtcgkhocmlolknaaFsP
namespace Go.Proofs.Ytcgkhocmlolknaa
open Go.RowKit Go.Maps
set_option linter.unusedVariables false
set_option linter.unusedSimpArgs false

theorem total_swap (a b : Bs) (L : List (Bs × Bs)) : total (L.map fun p => if p.1 = a then (b, p.2) else p) = total L := by
  unfold total
  rw [List.map_map]
  congr 1
  apply List.map_congr_left
  intro p _
  show (if p.1 = a then (b, p.2) else p).2.length = p.2.length
  split <;> rfl
theorem fsRename_ok {s : FsS} (h : s.Ok) (a b : Bs) : (fsRename s a b).2.Ok := by
  unfold fsRename
  split
  · exact h
  · rename_i hh
    have ha : s.has a = true := by simpa using hh
    split
    · exact h
    · rename_i hn
      have hb : named b = true := by simpa using hn
      split
      · exact h
      · rename_i hab
        split
        · obtain ⟨v, hv⟩ : ∃ v, mget a s.files = some v := Option.isSome_iff_exists.1 ha
          have hm : mget a (mput strL b v s.files) = some v := by rw [mget_put_other strL hab]; exact hv
          have h1 := mget_total hm
          rw [mput_total] at h1
          have h2 := mdel_total b s.files
          have h3 : total (forgotten b s.waits) ≤ total s.waits := total_filter_le _ _
          rw [hv, Option.getD_some]
          refine ok_with h _ _ ?_ ?_ (fun p hp => mput_names h hb v p ((mdel_mem _ _ _).1 hp).1) fun p hp => ?_
          · rw [total_swap]
            unfold FsS.used
            omega
          · have := mdel_length_has (k := a) (E := mput strL b v s.files) (by rw [hm]; rfl)
            have := mput_length strL b v s.files
            have := h.few
            omega
          · obtain ⟨q, hq, rfl⟩ := List.mem_map.1 hp
            have hq' := hq
            unfold forgotten at hq'
            obtain ⟨h4, h5⟩ := List.mem_filter.1 hq'
            obtain ⟨h6, h7⟩ := h.piece q h4
            have h8 : q.1 ≠ b := by simpa using h5
            by_cases e : q.1 = a
            · simp only [if_pos e]
              refine ⟨h6, ?_⟩
              rw [mget_del_other (Ne.symm hab), mget_put_same]
              rfl
            · simp only [if_neg e]
              refine ⟨h6, ?_⟩
              rw [mget_del_other e, mget_put_other strL h8]
              exact h7
        · exact h.went

/-- two file systems of the call's own -/
structure Two (W w : World) (p : Nat) (S : FsS) (F : List Nat) (q : Nat) (T : FsS) (G : List Nat) : Prop where
  a : FsOwn W w p S F
  b : FsOwn W w q T G
  far : ∀ k ∈ F, k ∉ G
theorem Two.symm {W w : World} {p q : Nat} {S T : FsS} {F G : List Nat} (h : Two W w p S F q T G) : Two W w q T G p S F := ⟨h.b, h.a, fun k hk hm => h.far k hm hk⟩
theorem Two.step {W w w' : World} {p q : Nat} {S T S' : FsS} {F G : List Nat} (h : Two W w p S F q T G) (ht : FsTo w p F S' w') (ok : S'.Ok) : ∃ F', Two W w' p S' F' q T G := by
  obtain ⟨F', h1, h2⟩ := h.a.step ht ok
  refine ⟨F', h1, ⟨h.b.rep.chg h2 fun k hk hm => h.far k hm hk, h.b.up, h1.low, h.b.ok⟩, fun k hk hm => ?_⟩
  rcases h2.fresh k hk with h3 | h3
  · exact h.far k h3 hm
  · have := h.b.rep.lt k hm
    omega
theorem Two.then {W w w' : World} {p q : Nat} {S T : FsS} {F G : List Nat} (h : Two W w p S F q T G) (hb : Below w.heap.size w w') : Two W w' p S F q T G := ⟨h.a.then hb, h.b.then hb, h.far⟩

/-- one file -/
def oneS (k B : Bs) (P : List Bs) : FsS := ⟨10000, [(k, B)], P.map fun p => (k, p), none, false⟩
theorem oneS_one (k B : Bs) (P : List Bs) : One k (oneS k B P) B P := ⟨rfl, rfl, rfl, rfl⟩
theorem oneS_new {k : Bs} (hk : named k = true) : (fsCreate (fsNew 10000) k).2 = oneS k [] [] := by
  have e : fsCreate (fsNew 10000) k = (0, { fsNew 10000 with files := [(k, [])] }) := by
    unfold fsCreate
    rw [if_neg (by simp [hk]), if_neg (by simp [FsS.has, fsNew, mget]), if_neg (by simp [fsNew]), if_pos (by simp [FsS.go, fsNew])]
    rfl
  rw [e]
  rfl
def oneAp (B : Bs) (P : List Bs) (b : Bs) : List Bs := if b.length = 0 then P else if (10000 : Int) - ((B.length + P.flatten.length : Nat) : Int) < b.length then P else P ++ [b]
theorem oneS_append (k B : Bs) (P : List Bs) (b : Bs) : (fsAppend (oneS k B P) k b).2 = oneS k B (oneAp B P b) := by
  have h := oneS_one k B P
  obtain ⟨g1, g2⟩ := h.goes
  unfold fsAppend oneAp
  rw [if_neg (by simp [h.has]), h.used, h.room]
  by_cases h0 : b.length = 0
  · rw [if_pos h0, if_pos h0]
  · rw [if_neg h0, if_neg h0]
    by_cases h1 : (10000 : Int) - ((B.length + P.flatten.length : Nat) : Int) < b.length
    · rw [if_pos h1, if_pos h1]
    · rw [if_neg h1, if_neg h1, if_pos g1, g2]
      unfold oneS
      simp
theorem oneS_sync (k B : Bs) (P : List Bs) : (fsSync (oneS k B P) k).2 = oneS k (B ++ P.flatten) [] := by
  have h := oneS_one k B P
  obtain ⟨g1, g2⟩ := h.goes
  unfold fsSync
  rw [if_neg (by simp [h.has]), if_pos g1, g2, h.get, h.files, mput_one, h.waits, forgotten_one]
  rfl
theorem oneS_rename (a b B : Bs) (P : List Bs) (hb : named b = true) (hab : a ≠ b) : fsRename (oneS a B P) a b = (0, oneS b B P) := by
  have h := oneS_one a B P
  obtain ⟨g1, g2⟩ := h.goes
  have e1 : mput strL b B [(a, B)] = mins strL (b, B) [(a, B)] := by
    unfold mput mdel
    simp [hab]
  have e2 : mdel a (mput strL b B [(a, B)]) = [(b, B)] := by
    rw [e1]
    unfold mins mdel
    split <;> simp [Ne.symm hab, mins]
  have e3 : (forgotten b (P.map fun p => (a, p))).map (fun p => if p.1 = a then (b, p.2) else p) = P.map fun p => (b, p) := by
    unfold forgotten
    rw [List.filter_eq_self.2 (by intro p hp; obtain ⟨q, _, rfl⟩ := List.mem_map.1 hp; simpa using hab), List.map_map]
    apply List.map_congr_left
    intro p _
    simp
  unfold fsRename
  rw [if_neg (by simp [h.has]), if_neg (by simp [hb]), if_neg hab, if_pos g1, g2, h.files, h.waits, mget_one, Option.getD_some, e2, e3]
  rfl
end Go.Proofs.Ytcgkhocmlolknaa
