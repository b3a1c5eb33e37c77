/-
  A journal as plain data: what its calls do to the notes, wherever the file system is halted; what a crash leaves.
-/
import Derived.Test.YtglgjakjhkdoaaaDoorTaK
import Derived.Test.YtglgjakjhkdoaaaDoorTaJA
namespace Go.Proofs.YtglgjakjhkdoaaaDoor
open Go.RowKit Go.Maps
set_option linter.unusedVariables false
set_option linter.unusedSimpArgs false

/-- notes that last, notes that wait -/
structure Jn (k : Bs) (s : FsS) (D M : List Bs) : Prop where
  file : mget k s.files = some (D.flatMap wrapW)
  wait : (s.waits.filter fun p => decide (p.1 = k)) = M.map fun x => (k, wrapW x)
  shortD : ∀ x ∈ D, x.length ≤ 600
  shortM : ∀ x ∈ M, x.length ≤ 600
/-- what halts -/
def St (s : FsS) : Prop := s.halted = true → s.left = some 0
theorem Jn.has {k : Bs} {s : FsS} {D M : List Bs} (h : Jn k s D M) : s.has k = true := by unfold FsS.has; rw [h.file]; rfl
theorem Jn.get {k : Bs} {s : FsS} {D M : List Bs} (h : Jn k s D M) : s.get k = (D ++ M).flatMap wrapW := by
  unfold FsS.get pieces
  rw [h.file, h.wait, List.flatMap_append]
  congr 1
  rw [List.flatMap_map]
theorem Jn.of {k : Bs} {s s' : FsS} {D M : List Bs} (h : Jn k s D M) (hf : mget k s'.files = mget k s.files) (hw : (s'.waits.filter fun p => decide (p.1 = k)) = s.waits.filter fun p => decide (p.1 = k)) : Jn k s' D M := ⟨hf.trans h.file, hw.trans h.wait, h.shortD, h.shortM⟩
theorem Jn.went {k : Bs} {s : FsS} {D M : List Bs} (h : Jn k s D M) : Jn k s.went D M := h.of (by rw [(went_parts s).2.1]) (by rw [(went_parts s).2.2])
theorem St.went {s : FsS} (h : St s) : St s.went := by
  unfold St FsS.went at *
  cases hl : s.left with
  | none => simp only; intro g; have := h g; rw [hl] at this; cases this
  | some n =>
    dsimp only
    split
    · rename_i e; subst e; intro _; first | rfl | exact hl
    · rename_i e
      intro g
      have := h g
      rw [hl] at this
      simp only [Option.some.injEq] at this
      exact absurd this e
theorem went_mono {s : FsS} (h : s.halted = true) : s.went.halted = true := by
  unfold FsS.went
  cases s.left with
  | none => exact h
  | some n => dsimp only; split <;> first | rfl | exact h
theorem went_live {s : FsS} (h : s.halted = false) : s.went.halted = false ↔ s.go = true := by
  unfold FsS.went FsS.go
  cases s.left with
  | none => simp [h]
  | some n => dsimp only; split <;> simp_all
theorem no_go {s : FsS} (hs : St s) (h : s.halted = true) : s.go = false := by unfold FsS.go; rw [hs h]; decide
/-- what becomes of the halt -/
def Lh (s s' : FsS) : Prop := (s'.left = s.left ∧ s'.halted = s.halted) ∨ (s'.left = s.went.left ∧ s'.halted = s.went.halted)
theorem Lh.st {s s' : FsS} (h : Lh s s') (hs : St s) : St s' := by
  rcases h with ⟨h1, h2⟩ | ⟨h1, h2⟩
  · unfold St; rw [h1, h2]; exact hs
  · have := hs.went
    unfold St at this ⊢
    rw [h1, h2]; exact this
theorem Lh.mono {s s' : FsS} (h : Lh s s') (hh : s.halted = true) : s'.halted = true := by
  rcases h with ⟨h1, h2⟩ | ⟨h1, h2⟩
  · rw [h2]; exact hh
  · rw [h2]; exact went_mono hh
theorem Lh.none {s s' : FsS} (h : Lh s s') (hh : s.left = none) : s'.left = none ∧ s'.halted = s.halted := by
  have e : s.went = s := by unfold FsS.went; rw [hh]
  rcases h with ⟨h1, h2⟩ | ⟨h1, h2⟩
  · exact ⟨h1.trans hh, h2⟩
  · rw [e] at h1 h2; exact ⟨h1.trans hh, h2⟩
theorem create_lh (s : FsS) (k : Bs) : Lh s (fsCreate s k).2 := by
  unfold fsCreate
  repeat' split
  all_goals first | exact .inl ⟨rfl, rfl⟩ | exact .inr ⟨rfl, rfl⟩
theorem append_lh (s : FsS) (k b : Bs) : Lh s (fsAppend s k b).2 := by
  unfold fsAppend
  repeat' split
  all_goals first | exact .inl ⟨rfl, rfl⟩ | exact .inr ⟨rfl, rfl⟩
theorem sync_lh (s : FsS) (k : Bs) : Lh s (fsSync s k).2 := by
  unfold fsSync
  repeat' split
  all_goals first | exact .inl ⟨rfl, rfl⟩ | exact .inr ⟨rfl, rfl⟩
theorem remove_lh (s : FsS) (k : Bs) : Lh s (fsRemove s k).2 := by
  unfold fsRemove
  repeat' split
  all_goals first | exact .inl ⟨rfl, rfl⟩ | exact .inr ⟨rfl, rfl⟩
theorem cut_lh (s : FsS) (k : Bs) (n : Int) : Lh s (fsCut s k n).2 := by
  unfold fsCut
  repeat' split
  all_goals first | exact .inl ⟨rfl, rfl⟩ | exact .inr ⟨rfl, rfl⟩
theorem rename_lh (s : FsS) (a b : Bs) : Lh s (fsRename s a b).2 := by
  unfold fsRename
  repeat' split
  all_goals first | exact .inl ⟨rfl, rfl⟩ | exact .inr ⟨rfl, rfl⟩

theorem filter_forgotten {k o : Bs} (hne : o ≠ k) (W : List (Bs × Bs)) : ((forgotten o W).filter fun p => decide (p.1 = k)) = W.filter fun p => decide (p.1 = k) := by
  unfold forgotten
  rw [List.filter_filter]
  congr 1
  funext p
  by_cases e : p.1 = k
  · simp [e, Ne.symm hne]
  · simp [e]
theorem filter_forgotten_same (k : Bs) (W : List (Bs × Bs)) : ((forgotten k W).filter fun p => decide (p.1 = k)) = [] := by
  unfold forgotten
  rw [List.filter_filter, List.filter_eq_nil_iff]
  intro p _
  simp
/-- calls on another file -/
theorem Jn.create {k o : Bs} {s : FsS} {D M : List Bs} (h : Jn k s D M) (hne : o ≠ k) : Jn k (fsCreate s o).2 D M := by
  unfold fsCreate
  repeat' split
  all_goals first | exact h | exact h.went | skip
  exact h.of (mget_put_other strL (Ne.symm hne) _ _) (by show List.filter _ s.went.waits = _; rw [(went_parts s).2.2])
theorem Jn.append {k o : Bs} {s : FsS} {D M : List Bs} (h : Jn k s D M) (hne : o ≠ k) (b : Bs) : Jn k (fsAppend s o b).2 D M := by
  unfold fsAppend
  repeat' split
  all_goals first | exact h | exact h.went | skip
  exact h.of (by show mget k s.went.files = _; rw [(went_parts s).2.1]) (by
    show List.filter _ (s.waits ++ [(o, b)]) = _
    rw [List.filter_append, List.filter_cons, if_neg (by simpa using hne)]
    simp)
theorem Jn.sync {k o : Bs} {s : FsS} {D M : List Bs} (h : Jn k s D M) (hne : o ≠ k) : Jn k (fsSync s o).2 D M := by
  unfold fsSync
  repeat' split
  all_goals first | exact h | exact h.went | skip
  exact h.of (mget_put_other strL (Ne.symm hne) _ _) (filter_forgotten hne _)
theorem Jn.remove {k o : Bs} {s : FsS} {D M : List Bs} (h : Jn k s D M) (hne : o ≠ k) : Jn k (fsRemove s o).2 D M := by
  unfold fsRemove
  repeat' split
  all_goals first | exact h | exact h.went | skip
  exact h.of (mget_del_other (Ne.symm hne) _) (filter_forgotten hne _)
theorem tilde_ne (k : Bs) : tilde k ≠ k := fun e => by have := congrArg List.length e; unfold tilde at this; simp at this
theorem Jn.clear {k : Bs} {s : FsS} {D M : List Bs} (h : Jn k s D M) : Jn k (tpClear s k) D M := by
  unfold tpClear
  split
  · exact h.remove (tilde_ne k)
  · exact h
theorem clear_lh (s : FsS) (k : Bs) : Lh s (tpClear s k) := by
  unfold tpClear
  split
  · exact remove_lh _ _
  · exact .inl ⟨rfl, rfl⟩
theorem clear_no {s : FsS} {k : Bs} (h : (tpClear s k).halted = false) (hs : s.halted = false) : (tpClear s k).has (tilde k) = false := by
  unfold tpClear at h ⊢
  split
  · rename_i hh
    rw [if_pos hh] at h
    unfold fsRemove at h ⊢
    rw [if_neg (by rw [hh]; simp)] at h ⊢
    dsimp only at h ⊢
    split
    · show (mget _ (mdel _ _)).isSome = false
      rw [mget_del_same]; rfl
    · rename_i hg
      rw [if_neg hg] at h
      exact absurd ((went_live hs).1 h) hg
  · rename_i hh
    simpa using hh
theorem wrapW_pos (x : Bs) : (wrapW x).length ≠ 0 := by unfold wrapW; simp

/-- a note is laid behind the others -/
theorem Jn.note {k : Bs} {s : FsS} {D M : List Bs} (h : Jn k s D M) (hl : s.halted = false) (x : Bs) :
    (Jn k (tpAppend s k x).2 D M ∧ ((tpAppend s k x).2.halted = true ∨ (tpAppend s k x).1 ≠ 0)) ∨ ((tpAppend s k x).1 = 0 ∧ (tpAppend s k x).2.halted = false ∧ Jn k (tpAppend s k x).2 D (M ++ [x])) := by
  unfold tpAppend
  split
  · exact .inl ⟨h, .inr (by simp)⟩
  rename_i hx
  unfold fsAppend
  rw [if_neg (by rw [h.has]; simp), if_neg (wrapW_pos x)]
  split
  · exact .inl ⟨h, .inr (by simp)⟩
  dsimp only
  split
  · rename_i hg
    refine .inr ⟨rfl, (went_live hl).2 hg, ⟨?_, ?_, h.shortD, fun y hy => ?_⟩⟩
    · show mget k s.went.files = _; rw [(went_parts s).2.1]; exact h.file
    · show List.filter _ (s.waits ++ [(k, wrapW x)]) = _
      rw [List.filter_append, h.wait, List.filter_cons, if_pos (by simp)]
      simp
    · rcases List.mem_append.1 hy with hy | hy
      · exact h.shortM y hy
      · rw [List.mem_singleton] at hy; subst hy; omega
  · rename_i hg
    refine .inl ⟨h.went, .inl ?_⟩
    cases e : s.went.halted with
    | true => rfl
    | false => exact absurd ((went_live hl).1 e) hg
/-- all last -/
theorem Jn.lasts {k : Bs} {s : FsS} {D M : List Bs} (h : Jn k s D M) (hl : s.halted = false) :
    (Jn k (fsSync s k).2 D M ∧ (fsSync s k).2.halted = true) ∨ ((fsSync s k).1 = 0 ∧ (fsSync s k).2.halted = false ∧ Jn k (fsSync s k).2 (D ++ M) []) := by
  unfold fsSync
  rw [if_neg (by rw [h.has]; simp)]
  dsimp only
  split
  · rename_i hg
    refine .inr ⟨rfl, (went_live hl).2 hg, ⟨?_, ?_, fun y hy => ?_, by simp⟩⟩
    · show mget k (mput strL k (s.get k) s.files) = _
      rw [mget_put_same, h.get]
    · exact filter_forgotten_same k _
    · rcases List.mem_append.1 hy with hy | hy
      · exact h.shortD y hy
      · exact h.shortM y hy
  · rename_i hg
    refine .inl ⟨h.went, ?_⟩
    cases e : s.went.halted with
    | true => rfl
    | false => exact absurd ((went_live hl).1 e) hg
/-- a file that is made -/
theorem jn_create {o : Bs} {s : FsS} (ok : s.Ok) (hl : s.halted = false) (h0 : (fsCreate s o).1 = 0) : (fsCreate s o).2.halted = true ∨ ((fsCreate s o).2.halted = false ∧ Jn o (fsCreate s o).2 [] []) := by
  unfold fsCreate at h0 ⊢
  split at h0
  · cases h0
  split at h0
  · cases h0
  split at h0
  · cases h0
  rename_i h1 h2 h3
  rw [if_neg h1, if_neg h2, if_neg h3]
  dsimp only
  split
  · rename_i hg
    refine .inr ⟨(went_live hl).2 hg, ⟨?_, ?_, by simp, by simp⟩⟩
    · show mget o (mput strL o [] s.files) = _
      rw [mget_put_same]; rfl
    · show List.filter _ s.went.waits = _
      rw [(went_parts s).2.2, List.map_nil, List.filter_eq_nil_iff]
      intro p hp he
      have h9 := (ok.piece p hp).2
      rw [of_decide_eq_true he] at h9
      exact h2 h9
  · rename_i hg
    left
    cases e : s.went.halted with
    | true => rfl
    | false => exact absurd ((went_live hl).1 e) hg
theorem apps_lh : ∀ (l : List Bs) (s : FsS) (o : Bs), (St s → St (tpApps s o l).2) ∧ (s.halted = true → (tpApps s o l).2.halted = true) ∧ (s.left = none → (tpApps s o l).2.left = none ∧ (tpApps s o l).2.halted = s.halted)
  | [], s, o => ⟨id, id, fun h => ⟨h, rfl⟩⟩
  | x :: l, s, o => by
    have h1 := append_lh s o (wrapW x)
    unfold tpApps
    split
    · exact ⟨h1.st, h1.mono, h1.none⟩
    · obtain ⟨g1, g2, g3⟩ := apps_lh l (fsAppend s o (wrapW x)).2 o
      refine ⟨fun h => g1 (h1.st h), fun h => g2 (h1.mono h), fun h => ?_⟩
      obtain ⟨q1, q2⟩ := h1.none h
      obtain ⟨r1, r2⟩ := g3 q1
      exact ⟨r1, r2.trans q2⟩
theorem Jn.apps {k o : Bs} (hne : o ≠ k) : ∀ (l : List Bs) {s : FsS} {D M : List Bs} (h : Jn k s D M), Jn k (tpApps s o l).2 D M
  | [], s, D, M, h => h
  | x :: l, s, D, M, h => by
    unfold tpApps
    split
    · exact h.append hne _
    · exact Jn.apps hne l (h.append hne _)
/-- notes that are laid into a file -/
theorem jn_apps {o : Bs} : ∀ (l : List Bs) {s : FsS} {D N : List Bs} (h : Jn o s D N) (hl : s.halted = false) (hx : ∀ x ∈ l, x.length ≤ 600),
    (tpApps s o l).1 ≠ 0 ∨ (tpApps s o l).2.halted = true ∨ ((tpApps s o l).1 = 0 ∧ (tpApps s o l).2.halted = false ∧ Jn o (tpApps s o l).2 D (N ++ l))
  | [], s, D, N, h, hl, hx => .inr (.inr ⟨rfl, hl, by rw [List.append_nil]; exact h⟩)
  | x :: l, s, D, N, h, hl, hx => by
    have e : tpAppend s o x = fsAppend s o (wrapW x) := by unfold tpAppend; rw [if_neg (by have := hx x (by simp); omega)]
    have h1 := h.note hl x
    rw [e] at h1
    unfold tpApps
    rcases h1 with ⟨h1, h2 | h2⟩ | ⟨h1, h2, h3⟩
    · split
      · rename_i h9; exact .inl h9
      · exact .inr (.inl ((apps_lh l _ o).2.1 h2))
    · rw [if_pos h2]
      exact .inl h2
    · rw [if_neg (by simpa using h1)]
      have := jn_apps l h3 h2 fun y hy => hx y (List.mem_cons_of_mem _ hy)
      rw [List.append_assoc] at this
      exact this
/-- the other file takes the place -/
theorem Jn.renamed {k o : Bs} {s : FsS} {D M L : List Bs} (h : Jn k s D M) (hk : named k = true) (ho : Jn o s L []) (hne : o ≠ k) (hl : s.halted = false) :
    (Jn k (fsRename s o k).2 D M ∧ (fsRename s o k).2.halted = true) ∨ ((fsRename s o k).1 = 0 ∧ (fsRename s o k).2.halted = false ∧ Jn k (fsRename s o k).2 L []) := by
  unfold fsRename
  rw [if_neg (by rw [ho.has]; simp), if_neg (by rw [hk]; simp), if_neg hne]
  dsimp only
  split
  · rename_i hg
    refine .inr ⟨rfl, (went_live hl).2 hg, ⟨?_, ?_, ho.shortD, by simp⟩⟩
    · show mget k (mdel o (mput strL k ((mget o s.files).getD []) s.files)) = _
      rw [mget_del_other (Ne.symm hne), mget_put_same, ho.file]
      rfl
    · show List.filter _ ((forgotten k s.waits).map fun p => if p.1 = o then (k, p.2) else p) = _
      rw [List.map_nil, List.filter_eq_nil_iff]
      intro p hp he
      obtain ⟨q, hq, rfl⟩ := List.mem_map.1 hp
      have hq1 := (List.mem_filter.1 hq)
      by_cases e : q.1 = o
      · have : q ∈ s.waits.filter fun p => decide (p.1 = o) := List.mem_filter.2 ⟨hq1.1, by simpa using e⟩
        rw [ho.wait] at this
        cases this
      · rw [if_neg e] at he
        have h8 := hq1.2
        simp only [decide_eq_true_eq] at he
        simp [he] at h8
  · rename_i hg
    refine .inl ⟨h.went, ?_⟩
    cases e : s.went.halted with
    | true => rfl
    | false => exact absurd ((went_live hl).1 e) hg
theorem Jn.rename_dead {k o : Bs} {s : FsS} {D M : List Bs} (h : Jn k s D M) (hs : St s) (hh : s.halted = true) : Jn k (fsRename s o k).2 D M := by
  have hg := no_go hs hh
  unfold fsRename
  repeat' split
  all_goals first | exact h | exact h.went | skip
  rename_i h9
  rw [hg] at h9
  cases h9
/-- all in the place of the others, or none -/
theorem Jn.swap {k : Bs} {s : FsS} {D M : List Bs} (h : Jn k s D M) (ok : s.Ok) (hk : named k = true) (hl : s.halted = false) (hs : St s) (L : List Bs) :
    (Jn k (tpSwap s k L).2 D M ∧ ((tpSwap s k L).2.halted = true ∨ (tpSwap s k L).1 ≠ 0)) ∨ ((tpSwap s k L).1 = 0 ∧ (tpSwap s k L).2.halted = false ∧ Jn k (tpSwap s k L).2 L []) := by
  have hne := tilde_ne k
  unfold tpSwap
  split
  · exact .inl ⟨h, .inr (by simp)⟩
  rename_i hsh
  have hsh : ∀ x ∈ L, x.length ≤ 600 := by simpa using hsh
  dsimp only
  have h1 := h.clear
  have s1 := (clear_lh s k).st hs
  have ok1 := tpClear_ok ok k
  obtain ⟨t, ht⟩ : ∃ t, t = tpClear s k := ⟨_, rfl⟩
  rw [← ht] at h1 s1 ok1 ⊢
  -- what the laying leaves
  have key : (Jn k (tpLay t k L).2 D M ∧ ((tpLay t k L).2.halted = true ∨ (tpLay t k L).1 ≠ 0)) ∨ ((tpLay t k L).1 = 0 ∧ (tpLay t k L).2.halted = false ∧ Jn k (tpLay t k L).2 L []) := by
    have dead : ∀ u : FsS, Jn k u D M → St u → u.halted = true → Jn k (tpTail u k).2 D M ∧ (tpTail u k).2.halted = true := fun u hu su hh => by
      unfold tpTail
      have g1 := sync_lh u (tilde k)
      split
      · exact ⟨hu.sync hne, g1.mono hh⟩
      · exact ⟨(hu.sync hne).rename_dead (g1.st su) (g1.mono hh), (rename_lh _ _ _).mono (g1.mono hh)⟩
    unfold tpLay
    have h2 := h1.create hne
    have s2 := (create_lh t (tilde k)).st s1
    by_cases hth : t.halted = true
    · split
      · exact .inl ⟨h2, .inl ((create_lh t (tilde k)).mono hth)⟩
      · obtain ⟨g1, g2, _⟩ := apps_lh L (fsCreate t (tilde k)).2 (tilde k)
        have hh2 := g2 ((create_lh t (tilde k)).mono hth)
        split
        · exact .inl ⟨h2.apps hne L, .inl hh2⟩
        · obtain ⟨q1, q2⟩ := dead _ (h2.apps hne L) (g1 s2) hh2
          exact .inl ⟨q1, .inl q2⟩
    · have hth : t.halted = false := by simpa using hth
      split
      · rename_i h9; exact .inl ⟨h2, .inr h9⟩
      rename_i he
      have he : (fsCreate t (tilde k)).1 = 0 := by simpa using he
      have h3 := jn_create ok1 hth he
      obtain ⟨u, hu⟩ : ∃ u, u = (fsCreate t (tilde k)).2 := ⟨_, rfl⟩
      rw [← hu] at h2 s2 h3 ⊢
      obtain ⟨g1, g2, _⟩ := apps_lh L u (tilde k)
      have h4 := h2.apps hne L
      rcases h3 with h3 | ⟨h3, hj⟩
      · split
        · exact .inl ⟨h4, .inl (g2 h3)⟩
        · obtain ⟨q1, q2⟩ := dead _ h4 (g1 s2) (g2 h3)
          exact .inl ⟨q1, .inl q2⟩
      · have h5 := jn_apps L hj h3 hsh
        split
        · rename_i h9; exact .inl ⟨h4, .inr h9⟩
        rename_i he2
        have he2 : (tpApps u (tilde k) L).1 = 0 := by simpa using he2
        rcases h5 with h5 | h5 | ⟨_, h5, h6⟩
        · exact absurd he2 h5
        · obtain ⟨q1, q2⟩ := dead _ h4 (g1 s2) h5
          exact .inl ⟨q1, .inl q2⟩
        · obtain ⟨v, hv⟩ : ∃ v, v = (tpApps u (tilde k) L).2 := ⟨_, rfl⟩
          have sv := g1 s2
          rw [← hv] at h4 h5 h6 sv ⊢
          rw [List.nil_append] at h6
          have h7 := h6.lasts h5
          rw [List.nil_append] at h7
          have h8 := h4.sync hne
          have s8 := (sync_lh v (tilde k)).st sv
          unfold tpTail
          split
          · rename_i h9; exact .inl ⟨h8, .inr h9⟩
          rcases h7 with ⟨_, h7⟩ | ⟨_, h7, h10⟩
          · exact .inl ⟨h8.rename_dead s8 h7, .inl ((rename_lh _ _ _).mono h7)⟩
          · rcases h8.renamed hk h10 hne h7 with ⟨q1, q2⟩ | q
            · exact .inl ⟨q1, .inl q2⟩
            · exact .inr q
  obtain ⟨r, hr⟩ : ∃ r, r = tpLay t k L := ⟨_, rfl⟩
  rw [← hr] at key ⊢
  rcases key with ⟨h2, h3⟩ | ⟨h2, h3, h4⟩
  · left
    split
    · rename_i h9
      exact ⟨h2.clear, .inr h9⟩
    · exact ⟨h2, h3⟩
  · right
    rw [if_neg (by simpa using h2)]
    exact ⟨h2, h3, h4⟩
theorem swap_none {s : FsS} (h : s.left = none) (k : Bs) (L : List Bs) : (tpSwap s k L).2.left = none ∧ (tpSwap s k L).2.halted = s.halted := by
  have tail : ∀ u : FsS, u.left = none → (tpTail u k).2.left = none ∧ (tpTail u k).2.halted = u.halted := fun u hu => by
    obtain ⟨g1, g2⟩ := (sync_lh u (tilde k)).none hu
    unfold tpTail
    split
    · exact ⟨g1, g2⟩
    · obtain ⟨q1, q2⟩ := (rename_lh (fsSync u (tilde k)).2 (tilde k) k).none g1
      exact ⟨q1, q2.trans g2⟩
  have lay : ∀ t : FsS, t.left = none → (tpLay t k L).2.left = none ∧ (tpLay t k L).2.halted = t.halted := fun t ht => by
    obtain ⟨g1, g2⟩ := (create_lh t (tilde k)).none ht
    unfold tpLay
    split
    · exact ⟨g1, g2⟩
    · obtain ⟨q1, q2⟩ := (apps_lh L (fsCreate t (tilde k)).2 (tilde k)).2.2 g1
      split
      · exact ⟨q1, q2.trans g2⟩
      · obtain ⟨r1, r2⟩ := tail _ q1
        exact ⟨r1, r2.trans (q2.trans g2)⟩
  unfold tpSwap
  split
  · exact ⟨h, rfl⟩
  · obtain ⟨g1, g2⟩ := (clear_lh s k).none h
    obtain ⟨q1, q2⟩ := lay _ g1
    dsimp only
    split
    · obtain ⟨r1, r2⟩ := (clear_lh (tpLay (tpClear s k) k L).2 k).none q1
      exact ⟨r1, r2.trans (q2.trans g2)⟩
    · exact ⟨q1, q2.trans g2⟩
theorem note_lh (s : FsS) (k x : Bs) : Lh s (tpAppend s k x).2 := by
  unfold tpAppend
  split
  · exact .inl ⟨rfl, rfl⟩
  · exact append_lh _ _ _
theorem swap_st {s : FsS} (h : St s) (k : Bs) (L : List Bs) : St (tpSwap s k L).2 := by
  have tail : ∀ u : FsS, St u → St (tpTail u k).2 := fun u hu => by
    have g1 := (sync_lh u (tilde k)).st hu
    unfold tpTail
    split
    · exact g1
    · exact (rename_lh _ _ _).st g1
  have lay : ∀ t : FsS, St t → St (tpLay t k L).2 := fun t ht => by
    have g1 := (create_lh t (tilde k)).st ht
    unfold tpLay
    split
    · exact g1
    · have q1 := (apps_lh L (fsCreate t (tilde k)).2 (tilde k)).1 g1
      split
      · exact q1
      · exact tail _ q1
  unfold tpSwap
  split
  · exact h
  · have q1 := lay _ ((clear_lh s k).st h)
    dsimp only
    split
    · exact (clear_lh _ _).st q1
    · exact q1
end Go.Proofs.YtglgjakjhkdoaaaDoor
