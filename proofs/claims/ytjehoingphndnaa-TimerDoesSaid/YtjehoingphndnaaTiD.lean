/-
  One timer; the head of timer's laws: known.
-/
import Derived.Test.YtjehoingphndnaaTiC
namespace Go.Proofs.Ytjehoingphndnaa
open Go.RowKit Go.Maps
set_option linter.unusedVariables false
set_option linter.unusedSimpArgs false

def single (k : Int) (r : Run) : Runs := setR (fun _ => none) k (some r)
theorem single_same (k : Int) (r : Run) : single k r k = some r := by simp [single, setR]
theorem single_other (k k' : Int) (r : Run) (h : k' ≠ k) : single k r k' = none := by simp [single, setR, h]
theorem bumped_single (tk now : Nat) (k : Int) (r : Run) : bumped tk now (single k r) [k] = single k (bump tk now r) := by
  funext k'
  by_cases h : k' = k
  · subst h; simp [bumped, single_same]
  · simp [bumped, h, single_other]
theorem bumped_nil (tk now : Nat) (m : Runs) : bumped tk now m [] = m := by funext k; simp [bumped]
theorem due_single {k : Int} {r : Run} {now : Nat} {L : List Int} (hp : L.Pairwise fun x y => x < y) (hm : ∀ k', k' ∈ L ↔ ∃ r', single k r k' = some r' ∧ r'.2 ≤ now) : L = if r.2 ≤ now then [k] else [] := by
  have h1 : ∀ k' ∈ L, k' = k ∧ r.2 ≤ now := fun k' h => by
    obtain ⟨r', h2, h3⟩ := (hm k').1 h
    by_cases hk : k' = k
    · subst hk
      rw [single_same] at h2
      exact ⟨rfl, by rw [Option.some.inj h2]; exact h3⟩
    · rw [single_other _ _ _ hk] at h2; cases h2
  by_cases hr : r.2 ≤ now
  · rw [if_pos hr]
    have hk : k ∈ L := (hm k).2 ⟨r, single_same _ _, hr⟩
    match L, hp, h1, hk with
    | [a], _, h1, _ => rw [(h1 a (by simp)).1]
    | a :: b :: l, hp, h1, _ =>
      have e1 := (h1 a (by simp)).1
      have e2 := (h1 b (by simp)).1
      have := (List.pairwise_cons.1 hp).1 b (by simp)
      omega
  · rw [if_neg hr]
    match L, h1 with
    | [], _ => rfl
    | a :: l, h1 => exact absurd (h1 a (by simp)).2 hr

/-- it is due -/
theorem due_one1 (tb tk n : Nat) (k : Int) (r : Run) (F : List Nat) (now : Nat) (hnow : now < Md) (htk : tk ≤ 1000) (hn : n ≤ 255) (hr : r.1 ≤ 1000000) (hd : r.2 ≤ now) (w : World) (h : TM w tb tk (single k r) n F) :
    Calls Try.prog 11 #[.pointer (some ⟨tb, 0, none⟩), .int .u64 now] w fun e w' => (∃ g c, e = .returned (.slice (some ⟨g, 0, none⟩) 1 c) ∧ w.heap.size ≤ g ∧ g < w'.heap.size ∧ w'.cell? ⟨g, 0, none⟩ = some (.int .u32 k)) ∧ TM w' tb tk (single k (bump tk now r)) n F ∧ Chg F F w w' := by
  refine (ti_Due tb tk n _ F now hnow htk hn (fun k' r' h' => ?_) w h).mono ?_
  · by_cases hk : k' = k
    · subst hk; rw [single_same] at h'; rw [← Option.some.inj h']; exact hr
    · rw [single_other _ _ _ hk] at h'; cases h'
  · rintro e w' ⟨L, a, c, rfl, h1, h2, h3, h4, h5, h6⟩
    have hL := due_single h2 h3
    rw [if_pos hd] at hL
    subst hL
    rw [bumped_single] at h5
    rcases h1.2 with ⟨_, h7⟩ | ⟨g, cap, cur, h7, h8, h9, _⟩
    · cases h7
    · simp only [Value.slice.injEq] at h7
      obtain ⟨rfl, _, _⟩ := h7
      have hc := h1.cellAt 0 (by simp)
      exact ⟨⟨g, c, rfl, h8, (Array.getElem?_eq_some_iff.1 h9).1, by rw [hc]; rfl⟩, h5, h6⟩
/-- it is not -/
theorem due_one0 (tb tk n : Nat) (k : Int) (r : Run) (F : List Nat) (now : Nat) (hnow : now < Md) (htk : tk ≤ 1000) (hn : n ≤ 255) (hr : r.1 ≤ 1000000) (hd : ¬ r.2 ≤ now) (w : World) (h : TM w tb tk (single k r) n F) :
    Calls Try.prog 11 #[.pointer (some ⟨tb, 0, none⟩), .int .u64 now] w fun e w' => (∃ a c, e = .returned (.slice a 0 c)) ∧ TM w' tb tk (single k r) n F ∧ Chg F F w w' := by
  refine (ti_Due tb tk n _ F now hnow htk hn (fun k' r' h' => ?_) w h).mono ?_
  · by_cases hk : k' = k
    · subst hk; rw [single_same] at h'; rw [← Option.some.inj h']; exact hr
    · rw [single_other _ _ _ hk] at h'; cases h'
  · rintro e w' ⟨L, a, c, rfl, h1, h2, h3, h4, h5, h6⟩
    have hL := due_single h2 h3
    rw [if_neg hd] at hL
    subst hL
    rw [bumped_nil] at h5
    exact ⟨⟨a, c, rfl⟩, h5, h6⟩

theorem start_single (tk now : Nat) (k : Int) : (if ((fun _ => none : Runs) k).isNone then setR (fun _ => none) k (some (0, (now + tk) % Md)) else (fun _ => none : Runs)) = single k (0, (now + tk) % Md) := rfl

set_option maxRecDepth 100000 in
set_option maxHeartbeats 3200000 in
theorem ti_known (w : World) : Calls Try.prog 8 #[] w fun e w' => e = .returned (.bool true) ∧ Below w.heap.size w w' := by
  go_enter Try.func8, Try.ntmps8
  go_wp2_with fail
  refine (tm_New 10 (by decide) (by decide) w).mono ?_
  rintro e w1 ⟨tb, F, rfl, ht1, hF, hb1⟩
  have HT := hide ht1; have HF := hide hF; have HB := hide hb1
  clear ht1 hF hb1
  go_wp2_with fail
  refine (tm_Start tb 10 0 _ F 1 0 (by decide) (by decide) (by decide) (by decide) w1 HT.out).mono ?_
  rintro e w2 ⟨rfl, ht2, hc2⟩
  have HT2 : Hid (TM w2 tb 10 (single 1 (0, 10)) 1 F) := hide ht2
  have HC2 := hide hc2
  rw [show (.bool ((fun _ => none : Runs) ((1 : Nat) : Int)).isNone : Value) = .bool true from rfl]
  clear ht2 hc2
  go_wp2_with fail
  refine (due_one0 tb 10 1 1 (0, 10) F 9 (by decide) (by decide) (by decide) (by decide) (by decide) w2 HT2.out).mono ?_
  rintro e w3 ⟨⟨a3, c3, rfl⟩, ht3, hc3⟩
  have HT3 := hide ht3
  have HC3 := hide (HC2.out.trans hc3)
  clear ht3 hc3
  go_wp2_with fail
  refine (due_one1 tb 10 1 1 (0, 10) F 10 (by decide) (by decide) (by decide) (by decide) (by decide) w3 HT3.out).mono ?_
  rintro e w4 ⟨⟨g4, c4, rfl, hg4, hg4', hx4⟩, ht4, hc4⟩
  have HT4 : Hid (TM w4 tb 10 (single 1 (1, 30)) 1 F) := hide ht4
  have HX4 := hide hx4
  have HC4 := hide (HC3.out.trans hc4)
  clear ht4 hc4 hx4
  go_wp2_with fail
  refine (tm_At tb 10 1 _ F 1 (by decide) w4 HT4.out).mono ?_
  rintro e w5 ⟨rfl, hb5⟩
  have HT5 := hide (HT4.out.low hb5)
  have HB5 := hide hb5
  rw [show (.int .u64 (((single 1 (1, 30) ((1 : Nat) : Int)).getD (0, 0)).2 : Nat) : Value) = .int .u64 30 from rfl, show (.bool (single 1 (1, 30) ((1 : Nat) : Int)).isSome : Value) = .bool true from rfl]
  clear hb5
  go_wp2_with fail
  refine (due_one1 tb 10 1 1 (1, 30) F 30 (by decide) (by decide) (by decide) (by decide) (by decide) w5 HT5.out).mono ?_
  rintro e w6 ⟨⟨g6, c6, rfl, hg6, hg6', hx6⟩, ht6, hc6⟩
  have HT6 : Hid (TM w6 tb 10 (single 1 (2, 70)) 1 F) := hide ht6
  have HC6 := hide hc6
  clear ht6 hc6 hx6
  go_wp2_with fail
  refine (tm_At tb 10 1 _ F 1 (by decide) w6 HT6.out).mono ?_
  rintro e w7 ⟨rfl, hb7⟩
  have HB7 := hide hb7
  rw [show (.int .u64 (((single 1 (2, 70) ((1 : Nat) : Int)).getD (0, 0)).2 : Nat) : Value) = .int .u64 70 from rfl, show (.bool (single 1 (2, 70) ((1 : Nat) : Int)).isSome : Value) = .bool true from rfl]
  have hx7 : w7.cell? ⟨g4, 0, none⟩ = some (.int .u32 1) := by
    have hn : g4 ∉ F := fun h => by have := HT3.out.lt g4 h; omega
    have e1 := HB5.out.cell (p := ⟨g4, 0, none⟩) hg4'
    have h5 : g4 < w5.heap.size := Nat.lt_of_lt_of_le hg4' HB5.out.size
    have e2 := World.cell?_of_block (w := w5) (w' := w6) (a := ⟨g4, 0, none⟩) (HC6.out.block g4 h5 hn)
    have h6 : g4 < w6.heap.size := Nat.lt_of_lt_of_le h5 HC6.out.size
    have e3 := HB7.out.cell (p := ⟨g4, 0, none⟩) h6
    exact e3.trans (e2.trans (e1.trans HX4.out))
  have HE : Hid (Below w.heap.size w w7) := hide (by
    have h1 : Chg F F w1 w7 := HC4.out.trans ((Chg.of_below HB5.out).trans (HC6.out.trans (Chg.of_below HB7.out)))
    exact HB.out.trans (h1.below HB.out.size HF.out))
  clear hb7 hg4 hg4' hg6 hg6'
  go_wp2
  go_ret
  exact ⟨rfl, HE.out⟩

/-- how long it takes the i-th time -/
def longAt (tk i : Nat) : Nat := tk * 2 ^ min i 4
theorem longAt_le {tk i : Nat} (h : tk ≤ 1000) : longAt tk i ≤ 16000 := by
  have e2 : (2 : Nat) ^ min i 4 ≤ 16 := Nat.pow_le_pow_right (n := 2) (by decide) (show min i 4 ≤ 4 by omega)
  have := Nat.mul_le_mul h e2
  unfold longAt
  omega
theorem longAt_up {tk i : Nat} (h : i < 4) : longAt tk (i + 1) = 2 * longAt tk i := by
  unfold longAt
  rw [show min (i + 1) 4 = i + 1 by omega, show min i 4 = i by omega, Nat.pow_succ]
  rw [← Nat.mul_assoc, Nat.mul_comm]
theorem longAt_top {tk i : Nat} (h : ¬ i < 4) : longAt tk (i + 1) = longAt tk i := by
  unfold longAt
  rw [show min (i + 1) 4 = 4 by omega, show min i 4 = 4 by omega]
theorem longAt_pos {tk i : Nat} (h : 1 ≤ tk) : 1 ≤ longAt tk i := by
  unfold longAt
  exact Nat.le_trans h (Nat.le_mul_of_pos_right _ (Nat.two_pow_pos _))
theorem bump_long (tk i la : Nat) (h : la + longAt tk i < 1000000000000) (htk : tk ≤ 1000) : bump tk (la + longAt tk i) (i, la + longAt tk i) = (i + 1, la + longAt tk i + longAt tk (i + 1)) := by
  have h2 := longAt_le (i := i + 1) htk
  unfold bump longer
  simp only [Prod.mk.injEq, true_and]
  show (la + longAt tk i + longAt tk (i + 1)) % Md = _
  exact Nat.mod_eq_of_lt (by unfold Md; omega)

set_option maxRecDepth 100000 in
set_option maxHeartbeats 3200000 in
theorem law_TimerLate0 (w : World) (tk0 k now : Int) (h0 : 0 ≤ tk0 ∧ tk0 ≤ 65535) (hk0 : 0 ≤ k ∧ k ≤ 4294967295) (hn0 : 0 ≤ now ∧ now ≤ 4294967295) (many : Nat) (hm : many ≤ 255) :
    Calls Try.prog 3 #[.int .u16 tk0, .int .u32 k, .int .u32 now, .int .u8 many] w fun e w' => e = .returned (.bool true) ∧ Below w.heap.size w w' := by
  obtain ⟨k, rfl⟩ : ∃ n : Nat, k = n := ⟨k.toNat, by omega⟩
  obtain ⟨now, rfl⟩ : ∃ n : Nat, now = n := ⟨now.toNat, by omega⟩
  obtain ⟨tk0, rfl⟩ : ∃ n : Nat, tk0 = n := ⟨tk0.toNat, by omega⟩
  obtain ⟨tk, htk⟩ : ∃ tk, tk = 1 + tk0 % 1000 := ⟨_, rfl⟩
  have htk1 : 1 ≤ tk ∧ tk ≤ 1000 := by omega
  have htz : (1 : Int) + (tk0 : Int) % 1000 = tk := by omega
  have htz2 : (1 : Int) + (tk0 : Int).tmod 1000 = tk := by rw [Int.tmod_eq_emod_of_nonneg (by omega)]; exact htz
  clear htk
  go_enter Try.func3, Try.ntmps3
  go_wp2_with fail
  refine (tm_New tk htk1.1 htk1.2 w).mono ?_
  rintro e w1 ⟨tb, F, rfl, ht1, hF, hb1⟩
  have HT := hide ht1; have HF := hide hF; have HB := hide hb1
  clear ht1 hF hb1
  go_wp2_with (go_at_call 8; refine (ti_known _).mono ?_; rintro e w2 ⟨rfl, hb2⟩; have HB2 := hide hb2; clear hb2)
  refine (tm_Start tb tk 0 _ F k now (by omega) (by unfold Md; omega) htk1.2 (by decide) w2 (HT.out.low HB2.out)).mono ?_
  rintro e w3 ⟨rfl, ht3, hc3⟩
  have hmod : (now + tk) % Md = now + tk := Nat.mod_eq_of_lt (by unfold Md; omega)
  rw [hmod] at ht3
  have HT3 : Hid (TM w3 tb tk (single k (0, now + longAt tk 0)) 1 F) := hide (by
    have h : longAt tk 0 = tk := by unfold longAt; simp
    rw [h]
    exact ht3)
  have HC3 : Hid (Chg F F w1 w3) := hide ((Chg.of_below HB2.out).trans hc3)
  generalize hst : ((fun _ => none : Runs) (k : Int)).isNone = sb
  clear ht3 hc3 hmod hst HB2
  go_wp2_with fail
  go_loopw [10, 11, 12, 13, 14] (fun lv av iv _ _ wr => ∃ (i la : Nat), lv = .int .u64 (longAt tk i) ∧ av = .int .u64 la ∧ iv = .int .i64 i ∧ i ≤ 20 ∧ la ≤ 4294967295 + 16000 * i ∧ Hid (TM wr tb tk (single k (i, la + longAt tk i)) 1 F) ∧ Hid (Chg F F w1 wr)) (fun _ _ iv _ _ _ => match iv with | .int _ j => 20 - j.toNat | _ => 0)
  case atStart => exact ⟨0, now, by congr 1; unfold longAt; simp, rfl, rfl, by omega, by omega, HT3, HC3⟩
  case round =>
    clear HT3 HC3
    obtain ⟨i, la, rfl, rfl, rfl, hi, hla, hT, hC⟩ := hrel
    have ho : ((many : Int)).tmod 20 = ((many % 20 : Nat) : Int) := by rw [Int.tmod_eq_emod_of_nonneg (by omega)]; omega
    by_cases hlt : i < many % 20
    · have hlong := longAt_le (i := i) htk1.2
      have hpos := longAt_pos (i := i) htk1.1
      have hbl := hide (bump_long tk i la (by omega) htk1.2)
      have hup : Hid (i < 4 → longAt tk (i + 1) = 2 * longAt tk i) := hide longAt_up
      have htop : Hid (¬ i < 4 → longAt tk (i + 1) = longAt tk i) := hide longAt_top
      obtain ⟨lo, hlo⟩ : ∃ lo, lo = longAt tk i := ⟨_, rfl⟩
      obtain ⟨lo', hlo'⟩ : ∃ lo', lo' = longAt tk (i + 1) := ⟨_, rfl⟩
      rw [← hlo] at hT hlong hpos hbl hup htop ⊢
      rw [← hlo'] at hbl hup htop
      have HLO' := hide hlo'
      clear hlo hlo'
      go_wp2_with fail
      refine (tm_At tb tk 1 _ F k (by omega) _ hT.out).mono ?_
      rw [single_same]
      rintro e w4 ⟨rfl, hb4⟩
      have HT4 := hide (hT.out.low hb4)
      have HC4 := hide (hC.out.trans (Chg.of_below hb4))
      rw [show (.int .u64 (((some ((i, la + lo) : Run)).getD (0, 0)).2 : Nat) : Value) = .int .u64 ((la + lo : Nat) : Int) from rfl, show (.bool (some ((i, la + lo) : Run)).isSome : Value) = .bool true from rfl]
      clear hb4
      have hw1 : IntKind.u64.wrap (((la + lo : Nat) : Int) - 1) = ((la + lo - 1 : Nat) : Int) := by rw [IntKind.wrap_u64]; omega
      go_wp2_with fail
      rw [show ((la : Int) + lo - 1) = ((la + lo - 1 : Nat) : Int) by omega]
      refine (due_one0 tb tk 1 k (i, la + lo) F (la + lo - 1) (by unfold Md; omega) htk1.2 (by decide) (by show i ≤ 1000000; omega) (by show ¬ la + lo ≤ la + lo - 1; omega) w4 HT4.out).mono ?_
      rintro e w5 ⟨⟨a5, c5, rfl⟩, ht5, hc5⟩
      have HT5 := hide ht5
      have HC5 := hide (HC4.out.trans hc5)
      clear ht5 hc5
      go_wp2_with fail
      rw [show ((la : Int) + lo) = ((la + lo : Nat) : Int) by omega]
      refine (due_one1 tb tk 1 k (i, la + lo) F (la + lo) (by unfold Md; omega) htk1.2 (by decide) (by show i ≤ 1000000; omega) (Nat.le_refl _) w5 HT5.out).mono ?_
      rw [hbl.out]
      rintro e w6 ⟨⟨g6, c6, rfl, _, _, _⟩, ht6, hc6⟩
      have HT6 := hide ht6
      have HC6 := hide (HC5.out.trans hc6)
      clear ht6 hc6
      go_wp2_with fail
      · have e := hup.out (by omega)
        refine ⟨⟨i + 1, la + lo, ?_, by go_num, by go_num, by omega, by omega, ?_, HC6⟩, ?_⟩
        · rw [← HLO'.out, e]; go_num
        · rw [← HLO'.out]; exact HT6
        · show 20 - ((i : Int) + 1).toNat < 20 - ((i : Nat) : Int).toNat
          omega
      · have e := htop.out (by omega)
        refine ⟨⟨i + 1, la + lo, ?_, by go_num, by go_num, by omega, by omega, ?_, HC6⟩, ?_⟩
        · rw [← HLO'.out, e]
        · rw [← HLO'.out]; exact HT6
        · show 20 - ((i : Int) + 1).toNat < 20 - ((i : Nat) : Int).toNat
          omega
    · go_wp2
      go_ret
      exact ⟨rfl, HB.out.trans (hC.out.below HB.out.size HF.out)⟩

theorem law_TimerLate (w : World) (tk0 : Int) (a0 : 0 ≤ tk0) (a1 : tk0 ≤ 65535) (k : Int) (b0 : 0 ≤ k) (b1 : k ≤ 4294967295) (now : Int) (c0 : 0 ≤ now) (c1 : now ≤ 4294967295) (many : UInt8) :
    Calls Try.prog 3 #[.int .u16 tk0, .int .u32 k, .int .u32 now, .int .u8 many.toNat] w fun e w' => e = .returned (.bool true) ∧ Below w.heap.size w w' :=
  law_TimerLate0 w tk0 k now ⟨a0, a1⟩ ⟨b0, b1⟩ ⟨c0, c1⟩ many.toNat (by have := many.toNat_lt; omega)
end Go.Proofs.Ytjehoingphndnaa
