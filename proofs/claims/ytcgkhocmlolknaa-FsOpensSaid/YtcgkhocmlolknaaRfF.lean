/-
  The document's file system: Create, Remove, Append.
-/
import Derived.Test.YtcgkhocmlolknaaRfE
namespace Go.Proofs.Ytcgkhocmlolknaa
open Go.RowKit Go.Maps
set_option linter.unusedVariables false
set_option linter.unusedSimpArgs false

theorem rf_find' (rb : Nat) (s : FsS) (F : List Nat) (k : Bs) (hk : k.length ≤ maxLen) (w : World) (h : RfRep w rb s F) (ok : s.Ok) :
    Calls Try.prog 21 #[.pointer (some ⟨rb, 0, none⟩), .string ⟨k.toArray⟩] w fun e w' => e = .returned (.tuple #[.int .i64 (posF k s.files), .bool (s.has k)]) ∧ Below w.heap.size w w' := by
  obtain ⟨fa, fc, pa, pc, lv, E, L, h, rfl⟩ := h
  obtain ⟨hE, hL, hnE, hnL⟩ := h.short ok
  rw [h.has k, h.files, posF_ct]
  exact rf_find rb s fa pa fc pc lv E L k hk hE hnE w h
theorem exNil (w : World) : EX w ⟨[], none, 0, 0⟩ := ⟨World.ownsRow_nil _ _ _ _, rfl⟩
theorem RfRep.filesN {w : World} {rb : Nat} {s : FsS} {F : List Nat} (h : RfRep w rb s F) : ∃ a c, w.cell? ⟨rb, 1, none⟩ = some (.slice a s.files.length c) := by
  obtain ⟨fa, fc, pa, pc, lv, E, L, h, rfl⟩ := h
  refine ⟨fa, fc, ?_⟩
  rw [h.files, List.length_map]
  exact (rf_cells h.blk).2.1

/-- insert, as it stands in Create -/
theorem rf_new (rb : Nat) (s : FsS) (F : List Nat) (k : Bs) (hk : k.length ≤ maxLen) (w : World) (h : RfRep w rb s F) (ok : s.Ok) (hno : s.has k = false) :
    Calls Try.prog 23 #[.pointer (some ⟨rb, 0, none⟩), .agg #[.string ⟨k.toArray⟩, .slice none 0 0]] w fun e w' => e = .returned (.tuple #[]) ∧ RfTo w rb F { s with files := mput strL k [] s.files } w' := by
  obtain ⟨fa, fc, pa, pc, lv, E, L, h, rfl⟩ := h
  obtain ⟨hE, hL, hnE, hnL⟩ := h.short ok
  have hno' : mget k E = none := by
    rw [h.has k] at hno
    cases hg : mget k E with
    | none => rfl
    | some v => rw [hg] at hno; cases hno
  refine (rf_insert rb s fa pa fc pc lv E L k [] none 0 0 hk hE hnE w h (exNil w) ?_ hno').mono ?_
  · show (([] : List Nat) ++ ebs (E ++ L)).Nodup
    rw [List.nil_append]
    exact h.ex
  · rintro e w' ⟨rfl, hm⟩
    refine ⟨rfl, hm.to fun b hb => .inl ?_⟩
    have := (ebs_perm ((mput_perm (e := ⟨[], none, 0, 0⟩) hno').append_right L)).mem_iff.1 hb
    exact this

/-- drop, as it stands in Remove -/
theorem rf_drop' (rb : Nat) (s : FsS) (F : List Nat) (k : Bs) (hk : k.length ≤ maxLen) (w : World) (h : RfRep w rb s F) (ok : s.Ok) :
    Calls Try.prog 51 #[.pointer (some ⟨rb, 0, none⟩), .string ⟨k.toArray⟩] w fun e w' => e = .returned (.tuple #[]) ∧ RfTo w rb F { s with files := mdel k s.files, waits := mdel k s.waits } w' := by
  obtain ⟨fa, fc, pa, pc, lv, E, L, h, rfl⟩ := h
  obtain ⟨hE, hL, hnE, hnL⟩ := h.short ok
  refine (rf_drop rb s fa pa fc pc lv E L k hk hE hL w h).mono ?_
  rintro e w' ⟨rfl, hm⟩
  exact ⟨rfl, hm.to fun b hb => .inl ((ebs_sub ((mdel_sub k E).append (mdel_sub k L))).subset hb)⟩
theorem RfTo.rest {w w' : World} {rb : Nat} {F : List Nat} {s : FsS} (h : RfRep w rb s F) (hb : Below w.heap.size w w') : RfTo w rb F s w' :=
  ⟨F, h.low hb, hb.os, hb.tape, hb.output, hb.size, fun b hb' _ => hb.block b hb', fun b hb' => .inl hb'⟩
theorem chg_of_below {w w' : World} {F : List Nat} (hb : Below w.heap.size w w') : Chg F F w w' := ⟨hb.os, hb.tape, hb.output, hb.size, fun b hb' _ => hb.block b hb', fun b hb' => .inl hb'⟩
theorem RfTo.after {w w1 w2 : World} {rb : Nat} {F : List Nat} {s' : FsS} (hb : Below w.heap.size w w1) (h : RfTo w1 rb F s' w2) : RfTo w rb F s' w2 := by
  obtain ⟨F2, h1, h2⟩ := h
  exact ⟨F2, h1, (chg_of_below hb).trans h2⟩
theorem went_has (s : FsS) (k : Bs) : s.went.has k = s.has k := by
  unfold FsS.has
  rw [(went_parts s).2.1]
set_option maxRecDepth 100000 in
set_option maxHeartbeats 1600000 in
theorem rf_Create (rb : Nat) (s : FsS) (F : List Nat) (k : Bs) (hk : k.length ≤ maxLen) (w : World) (h : RfRep w rb s F) (ok : s.Ok) :
    Calls Try.prog 30 #[.pointer (some ⟨rb, 0, none⟩), .string ⟨k.toArray⟩] w fun e w' => e = .returned (.int .i64 (fsCreate s k).1) ∧ RfTo w rb F (fsCreate s k).2 w' := by
  have H := hide h
  have OK := hide ok
  have HF := hide (rf_find' rb s F k hk w h ok)
  obtain ⟨hb, hhb⟩ : ∃ hb, hb = s.has k := ⟨_, rfl⟩
  obtain ⟨nb, hnb⟩ : ∃ nb, nb = named k := ⟨_, rfl⟩
  rw [← hhb] at HF
  have HHB := hide hhb; have HNB := hide hnb
  clear h ok hhb hnb
  cases nb with
  | false =>
    have e : fsCreate s k = (1, s) := by simp [fsCreate, ← HNB.out]
    rw [e]
    clear e
    go_enter Try.func30, Try.ntmps30
    go_wp2_with (first | (refine HF.out.mono ?_; rintro e w1 ⟨rfl, hb1⟩; have HB1 := hide hb1; clear hb1) | (refine (rf_named k hk _).mono ?_; rintro e w' ⟨rfl, rfl⟩; rw [← HNB.out]))
    go_ret
    exact ⟨rfl, RfTo.rest H.out HB1.out⟩
  | true =>
    cases hb with
    | true =>
      have e : fsCreate s k = (81, s) := by simp [fsCreate, ← HNB.out, ← HHB.out]
      rw [e]
      clear e
      go_enter Try.func30, Try.ntmps30
      go_wp2_with (first | (refine HF.out.mono ?_; rintro e w1 ⟨rfl, hb1⟩; have HB1 := hide hb1; clear hb1) | (refine (rf_named k hk _).mono ?_; rintro e w' ⟨rfl, rfl⟩; rw [← HNB.out]))
      go_ret
      exact ⟨rfl, RfTo.rest H.out HB1.out⟩
    | false =>
      obtain ⟨n, hn⟩ : ∃ n, n = s.files.length := ⟨_, rfl⟩
      have HN := hide hn
      have hcell : Hid (∀ w1, Below w.heap.size w w1 → ∃ a c, w1.cell? ⟨rb, 1, none⟩ = some (.slice a n c)) := hide fun w1 hb1 => by rw [hn]; exact (H.out.low hb1).filesN
      clear hn
      by_cases h8 : 8 ≤ n
      · have e : fsCreate s k = (3, s) := by simp [fsCreate, ← HNB.out, ← HHB.out, ← HN.out, h8]
        rw [e]
        have d8 : decide ((8 : Int) ≤ n) = true := decide_eq_true (by omega)
        clear e
        go_enter Try.func30, Try.ntmps30
        go_wp2_with (first | (refine HF.out.mono ?_; rintro e w1 ⟨rfl, hb1⟩; obtain ⟨a1, c1, f1⟩ := hcell.out w1 hb1; have HB1 := hide hb1; clear hb1) | (refine (rf_named k hk _).mono ?_; rintro e w' ⟨rfl, rfl⟩; rw [← HNB.out]))
        go_ret
        exact ⟨rfl, RfTo.rest H.out HB1.out⟩
      · have d8 : decide ((8 : Int) ≤ n) = false := decide_eq_false (by omega)
        obtain ⟨gb, hgb⟩ : ∃ gb, gb = s.go := ⟨_, rfl⟩
        have HGB := hide hgb
        clear hgb
        cases gb with
        | false =>
          have e : fsCreate s k = (0, s.went) := by simp [fsCreate, ← HNB.out, ← HHB.out, ← HN.out, h8, ← HGB.out]
          rw [e]
          clear e
          go_enter Try.func30, Try.ntmps30
          go_wp2_with (first | (refine HF.out.mono ?_; rintro e w1 ⟨rfl, hb1⟩; obtain ⟨a1, c1, f1⟩ := hcell.out w1 hb1; have HB1 := hide hb1; clear hb1) | (refine (rf_named k hk _).mono ?_; rintro e w' ⟨rfl, rfl⟩; rw [← HNB.out]) | (refine (rf_stopped rb s F _ (H.out.low HB1.out) OK.out).mono ?_; rintro e w2 ⟨rfl, ht⟩; rw [← HGB.out]; have HT := hide ht; clear ht))
          go_ret
          exact ⟨rfl, RfTo.after HB1.out HT.out⟩
        | true =>
          have e : fsCreate s k = (0, { s.went with files := mput strL k [] s.went.files }) := by simp [fsCreate, ← HNB.out, ← HHB.out, ← HN.out, h8, ← HGB.out, (went_parts s).2.1]
          rw [e]
          clear e
          go_enter Try.func30, Try.ntmps30
          go_wp2_with (first | (refine HF.out.mono ?_; rintro e w1 ⟨rfl, hb1⟩; obtain ⟨a1, c1, f1⟩ := hcell.out w1 hb1; have HB1 := hide hb1; clear hb1) | (refine (rf_named k hk _).mono ?_; rintro e w' ⟨rfl, rfl⟩; rw [← HNB.out]) | (refine (rf_stopped rb s F _ (H.out.low HB1.out) OK.out).mono ?_; rintro e w2 ⟨rfl, ht⟩; rw [← HGB.out]; obtain ⟨F2, hf2, hc2⟩ := ht; have HR2 := hide hf2; have HC2 := hide hc2; clear hf2 hc2) | (refine (rf_new rb s.went F2 k hk w2 HR2.out OK.out.went (by rw [went_has]; exact HHB.out.symm)).mono ?_; rintro e w3 ⟨rfl, ht⟩; have HT := hide ht; clear ht))
          go_ret
          obtain ⟨F3, h3, c3⟩ := HT.out
          exact ⟨rfl, RfTo.after HB1.out ⟨F3, h3, HC2.out.trans c3⟩⟩

set_option maxRecDepth 100000 in
set_option maxHeartbeats 1600000 in
theorem rf_Remove (rb : Nat) (s : FsS) (F : List Nat) (k : Bs) (hk : k.length ≤ maxLen) (w : World) (h : RfRep w rb s F) (ok : s.Ok) :
    Calls Try.prog 37 #[.pointer (some ⟨rb, 0, none⟩), .string ⟨k.toArray⟩] w fun e w' => e = .returned (.int .i64 (fsRemove s k).1) ∧ RfTo w rb F (fsRemove s k).2 w' := by
  have H := hide h
  have OK := hide ok
  have HF := hide (rf_find' rb s F k hk w h ok)
  obtain ⟨hb, hhb⟩ : ∃ hb, hb = s.has k := ⟨_, rfl⟩
  rw [← hhb] at HF
  have HHB := hide hhb
  clear h ok hhb
  cases hb with
  | false =>
    have e : fsRemove s k = (80, s) := by simp [fsRemove, ← HHB.out]
    rw [e]
    clear e
    go_enter Try.func37, Try.ntmps37
    go_wp2_with (refine HF.out.mono ?_; rintro e w1 ⟨rfl, hb1⟩; have HB1 := hide hb1; clear hb1)
    go_ret
    exact ⟨rfl, RfTo.rest H.out HB1.out⟩
  | true =>
    obtain ⟨gb, hgb⟩ : ∃ gb, gb = s.go := ⟨_, rfl⟩
    have HGB := hide hgb
    clear hgb
    cases gb with
    | false =>
      have e : fsRemove s k = (0, s.went) := by simp [fsRemove, ← HHB.out, ← HGB.out]
      rw [e]
      clear e
      go_enter Try.func37, Try.ntmps37
      go_wp2_with (first | (refine HF.out.mono ?_; rintro e w1 ⟨rfl, hb1⟩; have HB1 := hide hb1; clear hb1) | (refine (rf_stopped rb s F _ (H.out.low HB1.out) OK.out).mono ?_; rintro e w2 ⟨rfl, ht⟩; rw [← HGB.out]; have HT := hide ht; clear ht))
      go_ret
      exact ⟨rfl, RfTo.after HB1.out HT.out⟩
    | true =>
      have e : fsRemove s k = (0, { s.went with files := mdel k s.went.files, waits := mdel k s.went.waits }) := by simp [fsRemove, forgotten, mdel, ← HHB.out, ← HGB.out, (went_parts s).2.1, (went_parts s).2.2]
      rw [e]
      clear e
      go_enter Try.func37, Try.ntmps37
      go_wp2_with (first | (refine HF.out.mono ?_; rintro e w1 ⟨rfl, hb1⟩; have HB1 := hide hb1; clear hb1) | (refine (rf_stopped rb s F _ (H.out.low HB1.out) OK.out).mono ?_; rintro e w2 ⟨rfl, ht⟩; rw [← HGB.out]; obtain ⟨F2, hf2, hc2⟩ := ht; have HR2 := hide hf2; have HC2 := hide hc2; clear hf2 hc2) | (refine (rf_drop' rb s.went F2 k hk w2 HR2.out OK.out.went).mono ?_; rintro e w3 ⟨rfl, ht⟩; have HT := hide ht; clear ht))
      go_ret
      obtain ⟨F3, h3, c3⟩ := HT.out
      exact ⟨rfl, RfTo.after HB1.out ⟨F3, h3, HC2.out.trans c3⟩⟩
end Go.Proofs.Ytcgkhocmlolknaa
