/-
  A journal as plain data: what a crash leaves of it, and how it is opened.
-/
import Derived.Test.YtglgjakjhkdoaaaDoorTaN
namespace Go.Proofs.YtglgjakjhkdoaaaDoor
open Go.RowKit Go.Maps
set_option linter.unusedVariables false
set_option linter.unusedSimpArgs false

theorem lastK_top {K : List Bool} : ∀ {n i : Nat}, i < n → keptB K i = true → (i : Int) ≤ lastK K n
  | 0, i, h, _ => absurd h (Nat.not_lt_zero i)
  | n + 1, i, h, hk => by
    unfold lastK
    split
    · omega
    · rename_i hn
      have : i ≠ n := fun e => hn (by rw [← e]; exact hk)
      exact lastK_top (by omega) hk
/-- whole notes, and what is none behind them -/
structure Cn (k : Bs) (s : FsS) (N : List Bs) (r : Bs) : Prop where
  file : mget k s.files = some (N.flatMap wrapW ++ r)
  wait : (s.waits.filter fun p => decide (p.1 = k)) = []
  stop : opened r = none
  short : ∀ x ∈ N, x.length ≤ 600
theorem Cn.has {k : Bs} {s : FsS} {N : List Bs} {r : Bs} (h : Cn k s N r) : s.has k = true := by unfold FsS.has; rw [h.file]; rfl
theorem Cn.get {k : Bs} {s : FsS} {N : List Bs} {r : Bs} (h : Cn k s N r) : s.get k = N.flatMap wrapW ++ r := by
  unfold FsS.get pieces
  rw [h.file, h.wait]
  simp
theorem Cn.clear {k : Bs} {s : FsS} {N : List Bs} {r : Bs} (h : Cn k s N r) : Cn k (tpClear s k) N r := by
  unfold tpClear
  split
  · unfold fsRemove
    repeat' split
    · exact h
    · exact ⟨(mget_del_other (Ne.symm (tilde_ne k)) _).trans h.file, (filter_forgotten (tilde_ne k) _).trans h.wait, h.stop, h.short⟩
    · exact ⟨by show mget k s.went.files = _; rw [(went_parts s).2.1]; exact h.file, by show List.filter _ s.went.waits = _; rw [(went_parts s).2.2]; exact h.wait, h.stop, h.short⟩
  · exact h
theorem tpRead_cn {N : List Bs} {r : Bs} (hs : ∀ x ∈ N, x.length ≤ 600) (hr : opened r = none) : tpRead (N.flatMap wrapW ++ r) = (N, (N.flatMap wrapW).length) := by
  rw [tpRead_wraps N r hs, tpRead_none hr]
  simp
/-- it is opened -/
theorem Cn.open {k : Bs} {s : FsS} {N : List Bs} {r : Bs} (h : Cn k s N r) (k0 : k.length ≠ 0) (k1 : k.length < 16) : ∃ s' r', tpOpen s k = (0, s', N) ∧ Cn k s' N r' := by
  have h1 := h.clear
  have hm : tpMade (tpClear s k) k = (0, tpClear s k) := by unfold tpMade; rw [if_pos h1.has]
  have hg : tpGot (tpClear s k) k = N.flatMap wrapW ++ r := by unfold tpGot; rw [if_pos h1.has, h1.get]
  have hr := tpRead_cn h.short h.stop
  unfold tpOpen
  rw [if_neg (by omega), hm, if_neg (by simp), hg, hr]
  obtain ⟨t, ht⟩ : ∃ t, t = tpClear s k := ⟨_, rfl⟩
  rw [← ht] at h1 hg ⊢
  unfold tpCut
  rw [hg, hr]
  dsimp only
  split
  · rename_i hlt
    unfold fsCut
    rw [if_neg (by rw [h1.has]; simp), if_neg (by rw [h1.get, List.length_append]; omega)]
    dsimp only
    split
    · refine ⟨_, [], rfl, ⟨?_, filter_forgotten_same k _, opened_nil, h.short⟩⟩
      show mget k (mput strL k _ _) = _
      rw [mget_put_same, h1.get]
      simp
    · exact ⟨_, r, rfl, by rw [(went_parts t).2.1]; exact h1.file, by rw [(went_parts t).2.2]; exact h1.wait, h.stop, h.short⟩
  · exact ⟨t, r, rfl, h1⟩
/-- it is opened where all is whole -/
theorem Jn.open {k : Bs} {s : FsS} {D M : List Bs} (h : Jn k s D M) (k0 : k.length ≠ 0) (k1 : k.length < 16) : tpOpen s k = (0, tpClear s k, D ++ M) := by
  have h1 := h.clear
  have hm : tpMade (tpClear s k) k = (0, tpClear s k) := by unfold tpMade; rw [if_pos h1.has]
  have hg : tpGot (tpClear s k) k = (D ++ M).flatMap wrapW := by unfold tpGot; rw [if_pos h1.has, h1.get]
  have hs : ∀ x ∈ D ++ M, x.length ≤ 600 := fun x hx => (List.mem_append.1 hx).elim (h.shortD x) (h.shortM x)
  have hr := tpRead_cn hs opened_nil
  rw [List.append_nil] at hr
  unfold tpOpen
  rw [if_neg (by omega), hm, if_neg (by simp), hg, hr]
  dsimp only
  unfold tpCut
  rw [hg, hr]
  rw [if_neg (by omega)]
theorem open_new (room : Int) (k : Bs) (hk : named k = true) (k0 : k.length ≠ 0) (k1 : k.length < 16) : tpOpen (fsNew room) k = (0, ⟨room, [(k, [])], [], none, false⟩, []) := by
  have h1 : tpClear (fsNew room) k = fsNew room := rfl
  have h2 : tpMade (fsNew room) k = (0, ⟨room, [(k, [])], [], none, false⟩) := by
    unfold tpMade
    rw [if_neg (by unfold FsS.has fsNew; simp [mget])]
    unfold fsCreate
    rw [if_neg (by rw [hk]; simp), if_neg (by unfold FsS.has fsNew; simp [mget]), if_neg (by simp [fsNew]), if_pos (by rfl)]
    rfl
  have h3 : tpGot (⟨room, [(k, [])], [], none, false⟩ : FsS) k = [] := by
    unfold tpGot FsS.get pieces
    rw [if_pos (by unfold FsS.has; simp [mget])]
    simp [mget]
  have h4 : tpCut (⟨room, [(k, [])], [], none, false⟩ : FsS) k = ⟨room, [(k, [])], [], none, false⟩ := by unfold tpCut; rw [h3, tpRead_nil]; rfl
  unfold tpOpen
  rw [if_neg (by omega), h1, h2, if_neg (by simp), h4, h3, tpRead_nil]
theorem jn_new (room : Int) (k : Bs) : Jn k (⟨room, [(k, [])], [], none, false⟩ : FsS) [] [] := ⟨by simp [mget], rfl, by simp, by simp⟩

theorem opened_noZ {r : Bs} (h : NoZ r) : opened r = none := by
  unfold opened
  rw [if_pos (.inr (nul_noZ h))]
theorem opened_part (x : Bs) (t : Nat) (ht : t < (wrapW x).length) : opened ((wrapW x).take t) = none := by
  have e : (wrapW x).take t = (bodyW x).take t := by
    have hl : (wrapW x).length = (bodyW x).length + 1 := by unfold wrapW; simp
    unfold wrapW
    rw [List.take_append_of_le_length (by omega)]
  rw [e]
  exact opened_noZ fun c hc => bodyW_noZ x c (List.mem_of_mem_take hc)
/-- how far a crash has come with a file -/
def CrK (k : Bs) (D M : List Bs) (last : Int) (n c : Nat) (st : List (Bs × Bs) × List (Bs × Int)) : Prop :=
  ∃ (i : Nat) (r : Bs) (g : Nat), i ≤ c ∧ mget k st.1 = some ((D ++ M.take i).flatMap wrapW ++ r) ∧ gapOf k st.2 = g ∧
    ((r = [] ∧ g = 0 ∧ i = c) ∨ (r = [] ∧ 0 < g) ∨ (∃ q, r = 0 :: q) ∨ (opened r = none ∧ last < n))
theorem crash_step {k : Bs} {D M : List Bs} {K : List Bool} {torn last : Int} {n c : Nat} {st : List (Bs × Bs) × List (Bs × Int)} (h : CrK k D M last n c st) (hl : keptB K n = true → (n : Int) ≤ last) (p : Bs × Bs) :
    (p.1 ≠ k → CrK k D M last (n + 1) c (crashStep K torn last n p st)) ∧ (∀ x, M[c]? = some x → p = (k, wrapW x) → CrK k D M last (n + 1) (c + 1) (crashStep K torn last n p st)) := by
  obtain ⟨i, r, g, hi, hf, hg, hc⟩ := h
  have hcase : (r = [] ∧ g = 0 ∧ i = c) ∨ (r = [] ∧ 0 < g) ∨ (∃ q, r = 0 :: q) ∨ (opened r = none ∧ last < ((n + 1 : Nat) : Int)) := by
    rcases hc with h | h | h | ⟨h1, h2⟩
    · exact .inl h
    · exact .inr (.inl h)
    · exact .inr (.inr (.inl h))
    · exact .inr (.inr (.inr ⟨h1, by omega⟩))
  refine ⟨fun hne => ?_, fun x hx hp => ?_⟩
  · unfold crashStep
    split
    · exact ⟨i, r, g, hi, (mget_put_other strL (Ne.symm hne) _ _).trans hf, by unfold gapOf; rw [mget_put_other strL (Ne.symm hne)]; exact hg, hcase⟩
    · exact ⟨i, r, g, hi, hf, by unfold gapOf; rw [mget_put_other strL (Ne.symm hne)]; exact hg, hcase⟩
  · subst hp
    have hw := wrapW_pos x
    unfold crashStep
    split
    · rename_i hk
      have hnl := hl hk
      show CrK k D M last (n + 1) (c + 1) (mput strL k ((mget k st.1).getD [] ++ List.replicate (gapOf k st.2).toNat 0 ++ tornB torn last n (wrapW x)) st.1, mput strL k 0 st.2)
      rw [hf, hg]
      have hgap : gapOf k (mput strL k 0 st.2) = ((0 : Nat) : Int) := by unfold gapOf; rw [mget_put_same]; rfl
      rcases hc with ⟨rfl, rfl, rfl⟩ | ⟨rfl, h0⟩ | ⟨q, rfl⟩ | ⟨_, h2⟩
      · have e0 : ((some ((D ++ M.take i).flatMap wrapW ++ ([] : Bs))).getD [] ++ List.replicate ((0 : Nat) : Int).toNat 0 ++ tornB torn last n (wrapW x)) = (D ++ M.take i).flatMap wrapW ++ tornB torn last n (wrapW x) := by simp
        rw [e0]
        unfold tornB
        split
        · rename_i ht
          refine ⟨i, (wrapW x).take torn.toNat, 0, Nat.le_succ _, mget_put_same .., hgap, .inr (.inr (.inr ⟨opened_part x _ (by omega), by omega⟩))⟩
        · refine ⟨i + 1, [], 0, Nat.le_refl _, ?_, hgap, .inl ⟨rfl, rfl, rfl⟩⟩
          rw [mget_put_same, List.take_add_one, hx]
          simp
      · refine ⟨i, 0 :: (List.replicate (g - 1) 0 ++ tornB torn last n (wrapW x)), 0, Nat.le_succ_of_le hi, ?_, hgap, .inr (.inr (.inl ⟨_, rfl⟩))⟩
        rw [mget_put_same]
        obtain ⟨g', rfl⟩ : ∃ g', g = g' + 1 := ⟨g - 1, by omega⟩
        simp [List.replicate_succ]
      · refine ⟨i, 0 :: (q ++ List.replicate g 0 ++ tornB torn last n (wrapW x)), 0, Nat.le_succ_of_le hi, ?_, hgap, .inr (.inr (.inl ⟨_, rfl⟩))⟩
        rw [mget_put_same]
        simp
      · omega
    · show CrK k D M last (n + 1) (c + 1) (st.1, mput strL k (gapOf k st.2 + (wrapW x).length) st.2)
      have hgap : gapOf k (mput strL k (gapOf k st.2 + (wrapW x).length) st.2) = ((g + (wrapW x).length : Nat) : Int) := by unfold gapOf at hg ⊢; rw [mget_put_same, hg]; simp
      rcases hcase with ⟨rfl, rfl, rfl⟩ | ⟨rfl, h0⟩ | h | h
      · exact ⟨i, [], _, Nat.le_succ _, hf, hgap, .inr (.inl ⟨rfl, by omega⟩)⟩
      · exact ⟨i, [], _, Nat.le_succ_of_le hi, hf, hgap, .inr (.inl ⟨rfl, by omega⟩)⟩
      · exact ⟨i, r, _, Nat.le_succ_of_le hi, hf, hgap, .inr (.inr (.inl h))⟩
      · exact ⟨i, r, _, Nat.le_succ_of_le hi, hf, hgap, .inr (.inr (.inr h))⟩
theorem crash_to {k : Bs} {D M : List Bs} (K : List Bool) (torn : Int) (L F : List (Bs × Bs)) (hf : mget k F = some (D.flatMap wrapW)) (hw : (L.filter fun p => decide (p.1 = k)) = M.map fun x => (k, wrapW x)) :
    ∀ n, n ≤ L.length → CrK k D M (lastK K L.length) n ((L.take n).filter fun p => decide (p.1 = k)).length (crashTo K torn (lastK K L.length) L F n)
  | 0, _ => ⟨0, [], 0, Nat.zero_le _, by simp [crashTo, hf], rfl, .inl ⟨rfl, rfl, by simp⟩⟩
  | n + 1, hn => by
    have ih := crash_to K torn L F hf hw n (by omega)
    have hp : L[n]? = some L[n] := List.getElem?_eq_getElem (by omega)
    have st := crash_step (torn := torn) ih (fun hk => lastK_top (n := L.length) (by omega) hk) L[n]
    have ht : (L.take (n + 1)).filter (fun p => decide (p.1 = k)) = (L.take n).filter (fun p => decide (p.1 = k)) ++ [L[n]].filter fun p => decide (p.1 = k) := by
      rw [List.take_add_one, hp, Option.toList_some, List.filter_append]
    rw [crashTo, hp, ht]
    simp only
    by_cases e : L[n].1 = k
    · rw [List.filter_cons, if_pos (by simpa using e), List.filter_nil, List.length_append]
      have hsplit : L.filter (fun p => decide (p.1 = k)) = (L.take n).filter (fun p => decide (p.1 = k)) ++ (L[n] :: (L.drop (n + 1)).filter fun p => decide (p.1 = k)) := by
        conv => lhs; rw [← List.take_append_drop n L]
        rw [List.filter_append, List.drop_eq_getElem_cons (by omega), List.filter_cons, if_pos (by simpa using e)]
      have h1 : (M.map fun x => (k, wrapW x))[((L.take n).filter fun p => decide (p.1 = k)).length]? = some L[n] := by
        rw [← hw, hsplit, List.getElem?_append_right (Nat.le_refl _), Nat.sub_self]
        rfl
      rw [List.getElem?_map] at h1
      obtain ⟨x, hx, hx2⟩ := Option.map_eq_some_iff.1 h1
      exact st.2 x hx hx2.symm
    · rw [List.filter_cons, if_neg (by simpa using e), List.filter_nil, List.append_nil]
      exact st.1 e
/-- what a crash leaves of the notes -/
theorem Jn.crash {k : Bs} {s : FsS} {D M : List Bs} (h : Jn k s D M) (K : List Bool) (torn : Int) : ∃ i r, Cn k (fsCrash s K torn) (D ++ M.take i) r := by
  obtain ⟨i, r, g, hi, hf, hg, hc⟩ := crash_to K torn s.waits s.files h.file h.wait s.waits.length (Nat.le_refl _)
  refine ⟨i, r, hf, rfl, ?_, fun x hx => ?_⟩
  · rcases hc with ⟨rfl, _⟩ | ⟨rfl, _⟩ | ⟨q, rfl⟩ | ⟨h, _⟩
    · exact opened_nil
    · exact opened_nil
    · exact opened_zero q
    · exact h
  · rcases List.mem_append.1 hx with hx | hx
    · exact h.shortD x hx
    · exact h.shortM x (List.mem_of_mem_take hx)
theorem crash_other {k : Bs} (K : List Bool) (torn last : Int) (L F : List (Bs × Bs)) (hw : (L.filter fun p => decide (p.1 = k)) = []) : ∀ n, mget k (crashTo K torn last L F n).1 = mget k F
  | 0 => rfl
  | n + 1 => by
    have ih := crash_other K torn last L F hw n
    rw [crashTo]
    split
    · rename_i p hp
      have hne : p.1 ≠ k := fun e => by
        have : p ∈ L.filter fun p => decide (p.1 = k) := List.mem_filter.2 ⟨List.mem_of_getElem? hp, by simpa using e⟩
        rw [hw] at this
        cases this
      unfold crashStep
      split
      · exact (mget_put_other strL (Ne.symm hne) _ _).trans ih
      · exact ih
    · exact ih
theorem Cn.crash {k : Bs} {s : FsS} {N : List Bs} {r : Bs} (h : Cn k s N r) (K : List Bool) (torn : Int) : Cn k (fsCrash s K torn) N r :=
  ⟨(crash_other K torn _ _ _ h.wait _).trans h.file, rfl, h.stop, h.short⟩
end Go.Proofs.YtglgjakjhkdoaaaDoor
