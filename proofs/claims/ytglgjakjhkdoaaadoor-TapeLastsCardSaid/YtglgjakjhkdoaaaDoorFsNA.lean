/-
  Rename keeps what is so.
-/
import Derived.Test.YtglgjakjhkdoaaaDoorFsN
namespace Go.Proofs.YtglgjakjhkdoaaaDoor
open Go.RowKit Go.Maps
set_option linter.unusedVariables false
set_option linter.unusedSimpArgs false

theorem total_swap (a b : Bs) (L : List (Bs × Bs)) : total (L.map fun p => if p.1 = a then (b, p.2) else p) = total L := by
  unfold total
  rw [List.map_map]
  congr 1
  apply List.map_congr_left
  intro p _
  show (if p.1 = a then (b, p.2) else p).2.length = p.2.length
  split <;> rfl
theorem fsRename_ok {s : FsS} (h : s.Ok) (a b : Bs) : (fsRename s a b).2.Ok := by
  unfold fsRename
  split
  · exact h
  · rename_i hh
    have ha : s.has a = true := by simpa using hh
    split
    · exact h
    · rename_i hn
      have hb : named b = true := by simpa using hn
      split
      · exact h
      · rename_i hab
        split
        · obtain ⟨v, hv⟩ : ∃ v, mget a s.files = some v := Option.isSome_iff_exists.1 ha
          have hm : mget a (mput strL b v s.files) = some v := by rw [mget_put_other strL hab]; exact hv
          have h1 := mget_total hm
          rw [mput_total] at h1
          have h2 := mdel_total b s.files
          have h3 : total (forgotten b s.waits) ≤ total s.waits := total_filter_le _ _
          rw [hv, Option.getD_some]
          refine ok_with h _ _ ?_ ?_ (fun p hp => mput_names h hb v p ((mdel_mem _ _ _).1 hp).1) fun p hp => ?_
          · rw [total_swap]
            unfold FsS.used
            omega
          · have := mdel_length_has (k := a) (E := mput strL b v s.files) (by rw [hm]; rfl)
            have := mput_length strL b v s.files
            have := h.few
            omega
          · obtain ⟨q, hq, rfl⟩ := List.mem_map.1 hp
            have hq' := hq
            unfold forgotten at hq'
            obtain ⟨h4, h5⟩ := List.mem_filter.1 hq'
            obtain ⟨h6, h7⟩ := h.piece q h4
            have h8 : q.1 ≠ b := by simpa using h5
            by_cases e : q.1 = a
            · simp only [if_pos e]
              refine ⟨h6, ?_⟩
              rw [mget_del_other (Ne.symm hab), mget_put_same]
              rfl
            · simp only [if_neg e]
              refine ⟨h6, ?_⟩
              rw [mget_del_other e, mget_put_other strL h8]
              exact h7
        · exact h.went
end Go.Proofs.YtglgjakjhkdoaaaDoor
