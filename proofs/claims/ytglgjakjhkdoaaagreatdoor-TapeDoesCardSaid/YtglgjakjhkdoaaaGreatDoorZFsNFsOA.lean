/-
What is so of a file system stays so.
A file system of the call's own; what is written out.
-/
import Derived.Test.YtglgjakjhkdoaaaGreatDoorZFsK
namespace Go.Proofs.YtglgjakjhkdoaaaGreatDoor
open Go.RowKit Go.Maps
set_option linter.unusedVariables false
set_option linter.unusedSimpArgs false

theorem fsNew_ok {room : Int} (h0 : 0 ≤ room) (h1 : room ≤ 1048576) : (fsNew room).Ok :=
  ⟨h0, h1, by show ((0 : Nat) : Int) ≤ room; simpa using h0, by simp [fsNew], (fun p hp => by cases hp), (fun p hp => by cases hp), (fun n hn => by cases hn)⟩
theorem mput_names {s : FsS} (h : s.Ok) {k : Bs} (hk : named k = true) (v : Bs) : ∀ p ∈ mput strL k v s.files, named p.1 = true := fun p hp => by
  rcases (mput_mem _ _ _ _ _).1 hp with rfl | hp
  · exact hk
  · exact h.names p hp.1
theorem has_named {s : FsS} (h : s.Ok) {k : Bs} (hk : s.has k = true) : named k = true := by
  obtain ⟨v, hv⟩ := Option.isSome_iff_exists.1 hk
  exact h.names (k, v) (mget_mem hv)
theorem mput_len_has {s : FsS} (h : s.Ok) {k : Bs} (hk : s.has k = true) (v : Bs) : (mput strL k v s.files).length ≤ 8 := by
  unfold mput
  rw [mins_length]
  have := mdel_length_has (k := k) (E := s.files) hk
  have := h.few
  omega
theorem forgotten_piece {s : FsS} (h : s.Ok) (k : Bs) (F : List (Bs × Bs)) (hF : ∀ j, j ≠ k → (mget j s.files).isSome = true → (mget j F).isSome = true) : ∀ p ∈ forgotten k s.waits, p.2 ≠ [] ∧ (mget p.1 F).isSome = true := fun p hp => by
  unfold forgotten at hp
  obtain ⟨h1, h2⟩ := List.mem_filter.1 hp
  obtain ⟨h3, h4⟩ := h.piece p h1
  exact ⟨h3, hF p.1 (by simpa using h2) h4⟩

theorem fsCreate_ok {s : FsS} (h : s.Ok) (k : Bs) : (fsCreate s k).2.Ok := by
  unfold fsCreate
  split
  · exact h
  · rename_i hn
    split
    · exact h
    · rename_i hh
      split
      · exact h
      · rename_i h8
        have hk : named k = true := by simpa using hn
        split
        · have e : ({ s.went with files := mput strL k [] s.files } : FsS) = { s.went with files := mput strL k [] s.files, waits := s.waits } := by rw [← (went_parts s).2.2]
          rw [e]
          refine ok_with h _ _ ?_ ?_ (mput_names h hk []) fun p hp => ⟨(h.piece p hp).1, mput_has _ _ _ _ _ (h.piece p hp).2⟩
          · rw [mput_total]
            have := mdel_total k s.files
            unfold FsS.used
            simp
            omega
          · have := mput_length strL k [] s.files
            omega
        · exact h.went
theorem fsAppend_ok {s : FsS} (h : s.Ok) (k b : Bs) : (fsAppend s k b).2.Ok := by
  unfold fsAppend
  split
  · exact h
  · rename_i hh
    split
    · exact h
    · rename_i hb
      split
      · exact h
      · rename_i hr
        split
        · have h1 := h.went
          obtain ⟨e1, e2, e3⟩ := went_parts s
          refine ⟨h1.room0, h1.room1, ?_, h1.few, h1.names, fun p hp => ?_, h1.left0⟩
          · show ((total s.went.files + total (s.waits ++ [(k, b)]) : Nat) : Int) ≤ s.went.room
            rw [e1, e2, total_append]
            have : total [(k, b)] = b.length := by simp [total]
            unfold FsS.used at hr
            omega
          · rcases List.mem_append.1 hp with hp | hp
            · have h2 := h.piece p hp
              refine ⟨h2.1, ?_⟩
              show (mget p.1 s.went.files).isSome = true
              rw [e2]
              exact h2.2
            · simp only [List.mem_singleton] at hp
              subst hp
              refine ⟨fun e => hb (by rw [show b = [] from e]; rfl), ?_⟩
              show (mget k s.went.files).isSome = true
              rw [e2]
              have h9 : s.has k = true := by cases e : s.has k with
                | true => rfl
                | false => exact absurd e hh
              exact h9
        · exact h.went
theorem fsSync_ok {s : FsS} (h : s.Ok) (k : Bs) : (fsSync s k).2.Ok := by
  unfold fsSync
  split
  · exact h
  · rename_i hh
    have hk : s.has k = true := by simpa using hh
    split
    · refine ok_with h _ _ ?_ (mput_len_has h hk _) (mput_names h (has_named h hk) _) (forgotten_piece h k _ fun j hj hs => by rw [mget_put_other strL hj]; exact hs)
      rw [mput_total]
      have := get_total s k
      omega
    · exact h.went
theorem fsCut_ok {s : FsS} (h : s.Ok) (k : Bs) (n : Int) : (fsCut s k n).2.Ok := by
  unfold fsCut
  split
  · exact h
  · rename_i hh
    have hk : s.has k = true := by simpa using hh
    split
    · exact h
    · split
      · refine ok_with h _ _ ?_ (mput_len_has h hk _) (mput_names h (has_named h hk) _) (forgotten_piece h k _ fun j hj hs => by rw [mget_put_other strL hj]; exact hs)
        rw [mput_total, List.length_take]
        have := get_total s k
        omega
      · exact h.went
theorem fsRemove_ok {s : FsS} (h : s.Ok) (k : Bs) : (fsRemove s k).2.Ok := by
  unfold fsRemove
  split
  · exact h
  · split
    · refine ok_with h _ _ ?_ ?_ (fun p hp => h.names p ((mdel_mem _ _ _).1 hp).1) (forgotten_piece h k _ fun j hj hs => by rw [mget_del_other hj]; exact hs)
      · have := get_total s k
        omega
      · have := mdel_length k s.files
        have := h.few
        omega
    · exact h.went
theorem fsHalt_ok {s : FsS} (h : s.Ok) (n : Int) (hn : n ≤ 9223372036854775807) : (fsHalt s n).Ok :=
  ⟨h.room0, h.room1, h.used, h.few, h.names, h.piece, fun m hm => by
    simp only [fsHalt, Option.some.injEq] at hm
    omega⟩
theorem crEq_all (s : FsS) (K : List Bool) (torn : Int) : ∀ i, i ≤ s.waits.length → CrEq s K torn i (crashTo K torn (lastK K s.waits.length) s.waits s.files i).1 (crashTo K torn (lastK K s.waits.length) s.waits s.files i).2
  | 0, _ => ⟨rfl, (fun p hp => by cases hp), by simp [crashTo, gsum, total], by simp [crashTo], by simp [crashTo]⟩
  | i + 1, hi => by
    have ih := crEq_all s K torn i (by omega)
    have hp : s.waits[i]? = some s.waits[i] := List.getElem?_eq_getElem (by omega)
    cases hk : keptB K i with
    | false =>
      have h1 := ih.lost hp hk
      have h2 := h1.eq
      rw [← h2]
      exact h1
    | true =>
      have h1 := ih.keeps hp hk
      have h2 := h1.eq
      rw [← h2]
      exact h1
theorem crash_names {s : FsS} (h : s.Ok) (K : List Bool) (torn last : Int) : ∀ i, (∀ p ∈ (crashTo K torn last s.waits s.files i).1, named p.1 = true) ∧ (crashTo K torn last s.waits s.files i).1.length ≤ s.files.length
  | 0 => ⟨h.names, Nat.le_refl _⟩
  | i + 1 => by
    obtain ⟨h1, h2⟩ := crash_names h K torn last i
    rw [crashTo]
    split
    · rename_i p hp
      have hpp := (h.piece p (List.mem_of_getElem? hp)).2
      unfold crashStep
      split
      · refine ⟨fun q hq => ?_, ?_⟩
        · rcases (mput_mem _ _ _ _ _).1 hq with rfl | hq
          · exact has_named h hpp
          · exact h1 q hq.1
        · simp only
          unfold mput
          rw [mins_length]
          have := mdel_length_has (crash_has K torn last s.waits s.files p.1 hpp i)
          omega
      · exact ⟨h1, h2⟩
    · exact ⟨h1, h2⟩
theorem fsCrash_ok {s : FsS} (h : s.Ok) (K : List Bool) (torn : Int) : (fsCrash s K torn).Ok := by
  have h1 := crEq_all s K torn s.waits.length (Nat.le_refl _)
  have h2 := crash_names h K torn (lastK K s.waits.length) s.waits.length
  refine ⟨h.room0, h.room1, ?_, Nat.le_trans h2.2 h.few, h2.1, (fun p hp => by cases hp), (fun n hn => by cases hn)⟩
  have h3 := h1.sum
  rw [List.take_length] at h3
  have h4 := gsum_nonneg h1.pos
  have h5 := h.used
  show ((total (crashTo K torn (lastK K s.waits.length) s.waits s.files s.waits.length).1 + total [] : Nat) : Int) ≤ s.room
  have h6 : total [] = 0 := rfl
  unfold FsS.used at h5
  omega
end Go.Proofs.YtglgjakjhkdoaaaGreatDoor

namespace Go.Proofs.YtglgjakjhkdoaaaGreatDoor
open Go.RowKit Go.Maps
set_option linter.unusedVariables false
set_option linter.unusedSimpArgs false

structure FsOwn (W w : World) (sb : Nat) (s : FsS) (F : List Nat) : Prop where
  rep : FsRep w sb s F
  up : ∀ k ∈ F, W.heap.size ≤ k
  low : Below W.heap.size W w
  ok : s.Ok
theorem FsOwn.step {W w w' : World} {sb : Nat} {s s' : FsS} {F : List Nat} (h : FsOwn W w sb s F) (ht : FsTo w sb F s' w') (ok : s'.Ok) : ∃ F', FsOwn W w' sb s' F' ∧ Chg F F' w w' := by
  obtain ⟨F', h1, h2⟩ := ht
  exact ⟨F', ⟨h1, h2.up h.low.size h.up, h.low.trans (h2.below h.low.size h.up), ok⟩, h2⟩
theorem FsOwn.then {W w w' : World} {sb : Nat} {s : FsS} {F : List Nat} (h : FsOwn W w sb s F) (hb : Below w.heap.size w w') : FsOwn W w' sb s F := ⟨h.rep.low hb, h.up, h.low.trans (hb.mono h.low.size), h.ok⟩
theorem fs_New' (room : Int) (h0 : 0 ≤ room) (h1 : room ≤ 1048576) (W w : World) (hb : Below W.heap.size W w) : Calls Tryz.prog 6 #[.int .i64 room] w fun e w' => ∃ sb F, e = .returned (.pointer (some ⟨sb, 0, none⟩)) ∧ FsOwn W w' sb (fsNew room) F ∧ (∀ k ∈ F, w.heap.size ≤ k) ∧ Below w.heap.size w w' := by
  refine (fs_New room h0 h1 w).mono ?_
  rintro e w' ⟨sb, F, rfl, h1', h2, h3⟩
  exact ⟨sb, F, rfl, ⟨h1', fun k hk => Nat.le_trans hb.size (h2 k hk), hb.trans (h3.mono hb.size), fsNew_ok h0 h1⟩, h2, h3⟩
theorem rdB_lit (w : World) (b : Bs) (n : Nat) (cs : Array Value) (hn : n = b.length) (hcs : cs = (bcells b).toArray) (h0 : 0 < n) : RdB (w.alloc (.cells cs 5)) (.slice (some ⟨w.heap.size, 0, none⟩) n n) b := by
  subst hcs
  have h := rd_new w (bcells b).toArray 5 n 1 h0 (by simp [bcells, hn])
  unfold RdB
  rw [← hn]
  simpa using h
theorem rdK_lit (w : World) (K : List Bool) (n : Nat) (cs : Array Value) (hn : n = K.length) (hcs : cs = (K.map Value.bool).toArray) (h0 : 0 < n) : RdK (w.alloc (.cells cs 4)) (.slice (some ⟨w.heap.size, 0, none⟩) n n) K := by
  subst hcs
  have h := rd_new w (K.map Value.bool).toArray 4 n 1 h0 (by simp [hn])
  unfold RdK
  rw [← hn]
  simpa using h
end Go.Proofs.YtglgjakjhkdoaaaGreatDoor
