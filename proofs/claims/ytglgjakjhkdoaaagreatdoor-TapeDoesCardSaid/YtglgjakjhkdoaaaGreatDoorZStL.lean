/-
  Walk over the reference of what is wrapped: Open.
-/
import Derived.Test.YtglgjakjhkdoaaaGreatDoorZStK
namespace Go.Proofs.YtglgjakjhkdoaaaGreatDoor
open Go.RowKit
set_option linter.unusedVariables false
set_option linter.unusedSimpArgs false

def openQ (s : List UInt8) : Option (List UInt8) :=
  match s with
  | [] => some []
  | c :: l =>
    if h : 0 < c.toNat ∧ c.toNat ≤ l.length + 1 then
      (openQ (l.drop (c.toNat - 1))).map fun r => l.take (c.toNat - 1) ++ ((if c ≠ 255 ∧ l.drop (c.toNat - 1) ≠ [] then [0] else []) ++ r)
    else none
termination_by s.length
decreasing_by simp; omega
theorem openQ_nil : openQ [] = some [] := by rw [openQ]
theorem openQ_cons (c : UInt8) (l : List UInt8) (h : 0 < c.toNat ∧ c.toNat ≤ l.length + 1) :
    openQ (c :: l) = (openQ (l.drop (c.toNat - 1))).map fun r => l.take (c.toNat - 1) ++ ((if c ≠ 255 ∧ l.drop (c.toNat - 1) ≠ [] then [0] else []) ++ r) := by rw [openQ, dif_pos h]
theorem openQ_no (c : UInt8) (l : List UInt8) (h : ¬ (0 < c.toNat ∧ c.toNat ≤ l.length + 1)) : openQ (c :: l) = none := by rw [openQ, dif_neg h]
theorem openR_Q : ∀ (n : Nat) (s : List UInt8) (long : Bool) (x : List UInt8), s.length ≤ n → openR s long = some x → openQ s = some x
  | n, [], long, x, _, h => by
    rw [openR_nil] at h
    cases long <;> simp at h
    subst h
    exact openQ_nil
  | 0, c :: l, long, x, hn, h => by simp at hn
  | n + 1, c :: l, long, x, hn, h => by
    by_cases hc : 0 < c.toNat ∧ c.toNat ≤ l.length + 1
    · rw [openR_cons c l long hc] at h
      rw [openQ_cons c l hc]
      cases hr : openR (l.drop (c.toNat - 1)) (c == 255) with
      | none => rw [hr] at h; cases h
      | some y =>
        rw [openR_Q n _ _ y (by simp at hn ⊢; omega) hr]
        rw [hr] at h
        exact h
    · rw [openR_no c l long hc] at h
      cases h

theorem nul_take (b : List UInt8) : b.take (nul b).length = nul b := by
  obtain ⟨hz, ⟨h, _⟩ | ⟨r, h, _⟩⟩ := nul_is b
  · rw [h]; simp
  · have : b.take (nul b).length = (nul b ++ 0 :: r).take (nul b).length := by rw [← h]
    rw [this, List.take_left']
    rfl
theorem nul_le (b : List UInt8) : (nul b).length ≤ b.length := by
  have := congrArg List.length (nul_take b)
  rw [List.length_take] at this
  omega
theorem nul_in (b : List UInt8) {j : Nat} (hj : j < (nul b).length) : b[j]'(by have := nul_le b; omega) ≠ 0 := by
  have h1 := (nul_is b).1
  have h2 : (nul b)[j] = b[j]'(by have := nul_le b; omega) := by
    have := nul_take b
    rw [List.getElem_of_eq this.symm hj, List.getElem_take]
  rw [← h2]
  exact h1 _ (List.getElem_mem hj)
theorem nul_at (b : List UInt8) (h : (nul b).length < b.length) : b[(nul b).length] = 0 ∧ b.take ((nul b).length + 1) = nul b ++ [0] := by
  obtain ⟨hz, ⟨h1, _⟩ | ⟨r, h1, _⟩⟩ := nul_is b
  · rw [h1] at h; omega
  · have e : b[(nul b).length] = (nul b ++ 0 :: r)[(nul b).length]'(by simp) := List.getElem_of_eq h1 _
    refine ⟨?_, ?_⟩
    · rw [e, List.getElem_append_right (Nat.le_refl _)]
      simp
    · have e2 : b.take ((nul b).length + 1) = (nul b ++ 0 :: r).take ((nul b).length + 1) := by rw [← h1]
      rw [e2, show nul b ++ 0 :: r = (nul b ++ [0]) ++ r by simp, List.take_left' (by simp)]
theorem opened_short {b : List UInt8} (h : (nul b).length = 0 ∨ (nul b).length = b.length) : opened b = none := by
  unfold opened
  refine if_pos (h.imp List.eq_nil_of_length_eq_zero fun h => ?_)
  have h1 := nul_take b
  rw [h, List.take_length] at h1
  exact h1.symm
theorem opened_Q {b : List UInt8} (h0 : 0 < (nul b).length) (h1 : (nul b).length < b.length) : opened b = openR (nul b) false := by
  unfold opened
  refine if_neg fun h => ?_
  rcases h with h | h
  · rw [h] at h0; simp at h0
  · rw [h] at h1; omega
theorem opened_Qnone {b : List UInt8} (h0 : 0 < (nul b).length) (h1 : (nul b).length < b.length) (hq : openQ (nul b) = none) : opened b = none := by
  rw [opened_Q h0 h1]
  cases h : openR (nul b) false with
  | none => rfl
  | some x => rw [openR_Q _ _ _ x (Nat.le_refl _) h] at hq; cases hq
theorem opened_Qsome {b x : List UInt8} (h0 : 0 < (nul b).length) (h1 : (nul b).length < b.length) (hq : openQ (nul b) = some x) : opened b = if wrapW x = b.take ((nul b).length + 1) then some x else none := by
  rw [opened_Q h0 h1, (nul_at b h1).2]
  have hne : nul b ≠ [] := fun e => by rw [e] at h0; simp at h0
  split
  · rename_i hw
    have hb : bodyW x = nul b := List.append_cancel_right (show bodyW x ++ [0] = nul b ++ [0] from hw)
    rw [← hb, open_body]
  · rename_i hw
    cases h : openR (nul b) false with
    | none => rfl
    | some y =>
      have e := openR_Q _ _ _ y (Nat.le_refl _) h
      rw [e] at hq
      obtain rfl : y = x := by injection hq
      refine absurd ?_ hw
      have := body_open _ _ _ _ (Nat.le_refl _) hne (nul_is b).1 h
      unfold wrapW
      rw [← this]

def RpTold (b : List UInt8) (w : World) (e : Ending) (w' : World) : Prop :=
  ∃ a n' c', e = .returned (.tuple #[.slice a n' c', .int .i64 (oN b), .int .i64 (oE b)]) ∧ w'.ownsRow w.heap.size 5 1 (.slice a n' c') n' (bcells (oB b)) ∧ n' = (oB b).length ∧ Below w.heap.size w w'
theorem rpTold_none {b : List UInt8} {w w' : World} (h : opened b = none) (hb : Below w.heap.size w w') : RpTold b w (.returned (.tuple #[.slice none 0 0, .int .i64 0, .int .i64 90])) w' := by
  obtain ⟨o1, o2, o3⟩ := opened_none h
  unfold RpTold
  rw [o1, o2, o3]
  exact ⟨_, _, _, rfl, World.ownsRow_nil _ _ _ _, rfl, hb⟩
theorem rpTold_some {b x : List UInt8} {w w' : World} {a : Option Addr} {n c : Nat} {k : Int} (h : opened b = some x) (ho : w'.ownsRow w.heap.size 5 1 (.slice a n c) x.length (bcells x)) (hn : n = x.length) (hk : k = oN b) (hb : Below w.heap.size w w') :
    RpTold b w (.returned (.tuple #[.slice a n c, .int .i64 k, .int .i64 0])) w' := by
  obtain ⟨o1, o2, o3⟩ := opened_some h
  unfold RpTold
  rw [o1, o3, hk]
  exact ⟨_, _, _, rfl, by rw [hn]; rw [hn] at ho; exact ho, hn, hb⟩

def RpRel (s : List UInt8) (w : World) (ov av : Value) (wr : World) : Prop :=
  ∃ (O : List UInt8) (k : Nat) (aO : Option Addr) (nO cO : Nat), ov = .slice aO nO cO ∧ av = .int .i64 k ∧ k ≤ s.length ∧ nO ≤ k ∧ Hid (nO = O.length) ∧
    Hid (RowIs w w.heap.size (.slice aO nO cO) O wr) ∧ Hid (openQ s = (openQ (s.drop k)).map fun r => O ++ r)

set_option maxRecDepth 100000 in
set_option maxHeartbeats 800000 in
theorem ref_Open (b : List UInt8) (ao : Option Addr) (n c : Nat) (w : World) (hn : n = b.length) (hx : RdB w (.slice ao n c) b) (hle : n ≤ c) (hc : c ≤ 9223372036854775807) (hlen : n ≤ 1048576) :
    Calls Tryz.prog 70 #[.slice ao n c] w (RpTold b w) := by
  have HX := hide hx; have HN := hide hn
  obtain ⟨s, hs⟩ : ∃ s, s = nul b := ⟨_, rfl⟩
  obtain ⟨m, hm⟩ : ∃ m, m = s.length := ⟨_, rfl⟩
  have hmn : m ≤ n := by rw [hm, hs, hn]; exact nul_le b
  have HM := hide hm; have HS := hide hs
  have hw1 : ∀ k : Nat, k ≤ n → IntKind.i64.wrap ((k : Int) + 1) = (k : Int) + 1 := fun k hk => by
    unfold IntKind.wrap
    simp [IntKind.bits, IntKind.signed]
    omega
  have HW := hide hw1
  clear hx hn hs hm hw1
  go_enter Tryz.func70, Tryz.ntmps70
  go_wp2
  go_loopw [5] (fun jv wr => ∃ j : Nat, jv = .int .i64 j ∧ j ≤ m ∧ w = wr) (fun jv _ => match jv with | .int _ j => n - j.toNat | _ => 0)
  case atStart => exact ⟨0, rfl, Nat.zero_le _, rfl⟩
  case round =>
    obtain ⟨j, rfl, hjm, rfl⟩ := hrel
    by_cases hj : j < m
    · have i0 : (j : Int) < n := by omega
      obtain ⟨bb, off, c9, he, hcell, hbw⟩ := RdB.at (k := j) (l := b) (by have := HX.out; rw [HN.out] at this; exact this) (by have := HN.out; omega)
      simp only [Value.slice.injEq] at he
      obtain ⟨rfl, -⟩ := he
      have hne : (b[j]'(by have := HN.out; omega)).toNat ≠ 0 := fun e => nul_in b (j := j) (by rw [← HS.out, ← HM.out]; exact hj) (UInt8.toNat.inj (by exact e))
      have hw1 := HW.out j (by omega)
      generalize (b[j]'(by have := HN.out; omega)).toNat = y at hcell hne
      have hne2 : ¬ ((y : Int) = 0) := by omega
      have hne3 : ((y : Int) == 0) = false := by simpa using hne2
      go_wp2
      exact ⟨⟨j + 1, rfl, by omega, trivial⟩, by show n - (j + 1 : Int).toNat < n - ((j : Nat) : Int).toNat; omega⟩
    · obtain rfl : j = m := by omega
      by_cases hnm : j = n
      · have ho := hide (opened_short (b := b) (.inr (by rw [← HS.out, ← HM.out, hnm]; exact HN.out)))
        subst hnm
        go_wp2
        go_ret3
        exact rpTold_none ho.out (Below.refl _ _)
      · have i0 : (j : Int) < n := by omega
        obtain ⟨bb, off, c9, he, hcell, hbw⟩ := RdB.at (k := j) (l := b) (by have := HX.out; rw [HN.out] at this; exact this) (by have := HN.out; omega)
        simp only [Value.slice.injEq] at he
        obtain ⟨rfl, -⟩ := he
        have hjl : (nul b).length = j := by rw [← HS.out, ← HM.out]
        have hz : (b[j]'(by have := HN.out; omega)).toNat = 0 := by
          have h1 := (nul_at b (by rw [hjl]; have := HN.out; omega)).1
          simp only [hjl] at h1
          rw [h1]
          rfl
        rw [hz] at hcell
        have i1 : ¬ ((j : Int) = n) := by omega
        by_cases hm0 : j = 0
        · have ho := hide (opened_short (b := b) (.inl (by rw [hjl]; exact hm0)))
          subst hm0
          have i2 : ¬ ((0 : Int) = n) := by omega
          simp only [Nat.add_zero] at hcell
          clear hz hjl
          go_wp2
          go_ret3
          exact rpTold_none ho.out (Below.refl _ _)
        · have HQN := hide (opened_Qnone (b := b) (by omega) (by have := HN.out; omega))
          have HQS := hide (fun x => opened_Qsome (b := b) (x := x) (by omega) (by have := HN.out; omega))
          rw [← HS.out] at HQN HQS
          rw [← HM.out] at HQS
          have i2 : ¬ ((j : Int) = 0) := by omega
          have hsz := hide (nul_is b).1
          have htk := hide (nul_take b)
          rw [← HS.out] at hsz htk
          rw [← HM.out] at htk
          have i3 : ((j : Int) == (n : Int)) = false := by simpa using i1
          have i4 : ((j : Int) == 0) = false := by simpa using i2
          clear hz hjl
          go_wp2
          obtain ⟨hjn⟩ : Nonempty (j < n) := ⟨by omega⟩
          clear hcell i0 i1 i2 i3 i4 hbw hj hnm hm0 hjm hmn
          go_loopw [6, 7] (fun ov av wr => RpRel s w ov av wr) (fun _ av _ => match av with | .int _ k => j - k.toNat | _ => 0)
          case atStart => exact ⟨[], 0, none, 0, 0, rfl, rfl, by omega, Nat.le_refl _, hide rfl, hide ⟨World.ownsRow_nil _ _ _ _, Below.refl _ _, Nat.le_refl _⟩, hide (by simp)⟩
          case round =>
            obtain ⟨O, k, aO, nO, cO, rfl, rfl, hkj, hnk, hnO, hO, hop⟩ := hrel
            rw [← HM.out] at hkj
            by_cases hkl : k < j
            · have hsk : k < s.length := by rw [← HM.out]; exact hkl
              have hsb : s[k] = b[k]'(by have := HN.out; omega) := by
                have h1 := htk.out.symm
                rw [List.getElem_of_eq h1 hsk, List.getElem_take]
              obtain ⟨b2, o2, c9, he, hcell, hbw⟩ := RdB.at (k := k) (l := b) (by have := HX.out.low hO.out.2.1; rw [HN.out] at this; exact this) (by have := HN.out; omega)
              simp only [Value.slice.injEq, Option.some.injEq, Addr.mk.injEq] at he
              obtain ⟨⟨rfl, rfl, -⟩, -⟩ := he
              rw [← hsb] at hcell
              have hdk : s.drop k = s[k] :: s.drop (k + 1) := List.drop_eq_getElem_cons hsk
              have hne := hsz.out _ (List.getElem_mem hsk)
              obtain ⟨ch, hch⟩ : ∃ ch, ch = s[k] := ⟨_, rfl⟩
              rw [← hch] at hcell hdk hne
              obtain ⟨q, hq⟩ : ∃ q, q = ch.toNat := ⟨_, rfl⟩
              rw [← hq] at hcell
              have hq0 : 0 < q := by
                rcases Nat.eq_zero_or_pos q with h | h
                · exact absurd (UInt8.toNat.inj (by rw [← hq, h]; rfl)) hne
                · exact h
              have hq1 : q < 256 := by rw [hq]; exact ch.toNat_lt
              have HQ := hide hq
              have i0 : (k : Int) < j := by omega
              have hdl : Hid ((s.drop (k + 1)).length = j - (k + 1)) := hide (by rw [List.length_drop, ← HM.out])
              have g1 : IntKind.i64.wrap ((k : Int) + (q : Int)) = (k : Int) + (q : Int) := by
                unfold IntKind.wrap
                simp [IntKind.bits, IntKind.signed]
                omega
              have g2 : IntKind.i64.wrap (q : Int) = (q : Int) := by
                unfold IntKind.wrap
                simp [IntKind.bits, IntKind.signed]
                omega
              have g3 := HW.out k (by omega)
              by_cases hbig : j < k + q
              · have ho := hide (HQN.out (by rw [hop.out, hdk, openQ_no ch _ (by have := hdl.out; have := HQ.out; omega)]; rfl))
                have HB := hide hO.out.2.1
                have i1 : (j : Int) < (k : Int) + q := by omega
                clear hdk hne hch hq hsb
                go_wp2
                go_ret3
                exact rpTold_none ho.out HB.out
              · have i1 : ¬ ((j : Int) < (k : Int) + q) := by omega
                have i2 : (k : Int) + 1 ≤ (k : Int) + q := by omega
                have i3 : (k : Int) + q ≤ c := by omega
                have i4 : (k : Int) + q ≤ n := by omega
                obtain ⟨P, hP⟩ : ∃ P, P = (s.drop (k + 1)).take (q - 1) := ⟨_, rfl⟩
                have hop2 : Hid (openQ s = (openQ (s.drop (k + q))).map fun r => O ++ (P ++ ((if ch ≠ 255 ∧ s.drop (k + q) ≠ [] then [0] else []) ++ r))) := hide (by
                  rw [hop.out, hdk, openQ_cons ch _ (by have := hdl.out; have := HQ.out; omega), ← HQ.out, ← hP, List.drop_drop, show k + 1 + (q - 1) = k + q by omega]
                  simp only [Option.map_map]
                  rfl)
                have hPl : Hid (P.length = q - 1) := hide (by rw [hP, List.length_take, hdl.out]; omega)
                have hPr : Hid (RdB wr (.slice (some ⟨bb, off + (k + 1), none⟩) (k + q - (k + 1)) (c - (k + 1))) P) := hide (by
                  have h1 := (HX.out.low hO.out.2.1).upto HN.out (k + q) c (k + q) (by have := HN.out; simp; omega)
                  have h2 := h1.rest (by have := HN.out; simp; omega) (by omega) (k + 1) (c - (k + 1)) (k + q - (k + 1)) (by have := HN.out; simp; omega)
                  rw [if_neg (by omega)] at h2
                  have h3 : (b.take (k + q)).drop (k + 1) = P := by
                    rw [hP, ← htk.out, List.drop_take, List.drop_take, List.take_take, show min (q - 1) (j - (k + 1)) = k + q - (k + 1) by omega]
                  rw [h3] at h2
                  exact h2)
                have hl0 : Hid (O.length ≤ 1048576) := hide (by have := hnO.out; omega)
                have hn2 : Hid ((O ++ P).length = nO + (q - 1)) := hide (by rw [List.length_append, hPl.out, ← hnO.out])
                clear hdk hch hq hsb hP hop hbig
                go_upto_region 13 with (at_builtin; refine wpList_copy_own rfl _ _ 22 rfl w w.heap.size 5 Tryz.underlying22 (by kernel_rfl) _ O rfl (by exact hO.out) _ P rfl (by exact hPr.out) (by have := hl0.out; have := hPl.out; omega) ?_; intro a1 co1 w1 hown1 hb1; obtain ⟨n1, hn1⟩ : ∃ n, n = (O ++ P).length := ⟨_, rfl⟩; rw [← hn1] at hown1 ⊢; have N1 := hide hn1; have HO1 := hide hown1; have HB1 := hide hb1; skip; clear hn1 hown1 hb1)
                by_cases h255 : q = 255
                · subst h255
                  have hc2 : ch = 255 := UInt8.toNat.inj HQ.out.symm
                  have hop3 : Hid (openQ s = (openQ (s.drop (k + 255))).map fun r => (O ++ P) ++ r) := hide (by
                    rw [hop2.out, hc2]
                    simp)
                  have hREL : Hid (RpRel s w (.slice a1 n1 co1) (.int .i64 ((k : Int) + 255)) w1) := hide ⟨O ++ P, k + 255, a1, n1, co1, rfl, rfl, by have := HM.out; omega, by have := N1.out; have := hn2.out; omega, N1, HO1, hop3⟩
                  clear hop2 hc2
                  go_wp2_with fail
                  exact ⟨hREL.out, by show j - ((k : Int) + 255).toNat < j - ((k : Nat) : Int).toNat; omega⟩
                · have hc2 : ch ≠ 255 := fun e => h255 (by rw [HQ.out, e]; rfl)
                  have f1 : (q : Int) < 255 ↔ q < 255 := by omega
                  by_cases hkq : k + q = j
                  · have hTe : s.drop (k + q) = [] := List.drop_eq_nil_of_le (by have := HM.out; omega)
                    have hop3 : Hid (openQ s = (openQ (s.drop (k + q))).map fun r => (O ++ P) ++ r) := hide (by
                      rw [hop2.out, if_neg (by rw [hTe]; simp)]
                      simp)
                    have hREL : Hid (RpRel s w (.slice a1 n1 co1) (.int .i64 ((k : Int) + q)) w1) := hide ⟨O ++ P, k + q, a1, n1, co1, rfl, by simp, by have := HM.out; omega, by have := N1.out; have := hn2.out; omega, N1, HO1, hop3⟩
                    have f2 : ¬ ((k : Int) + q < j) := by omega
                    clear hop2 hc2 hTe hne
                    by_cases hq2 : q < 255
                    · have f3 : (q : Int) < 255 := by omega
                      go_wp2_with fail
                      exact ⟨hREL.out, by show j - ((k : Int) + q).toNat < j - ((k : Nat) : Int).toNat; omega⟩
                    · omega
                  · have hTe : s.drop (k + q) ≠ [] := fun e => by
                      have h1 := congrArg List.length e
                      rw [List.length_drop, ← HM.out] at h1
                      simp at h1
                      omega
                    have hop3 : Hid (openQ s = (openQ (s.drop (k + q))).map fun r => (O ++ P ++ [0]) ++ r) := hide (by
                      rw [hop2.out, if_pos ⟨hc2, hTe⟩]
                      simp)
                    have f2 : (k : Int) + q < j := by omega
                    have f3 : (q : Int) < 255 := by omega
                    clear hop2 hc2 hTe hne
                    have hrd2 := hide (rd_new w1 #[.int .u8 0] 5 1 1 (by decide) rfl)
                    have HO2 := hide (HO1.out.to (below_alloc w1 (.cells #[.int .u8 0] 5)))
                    go_wp2_with (at_builtin; refine wpList_copy_own rfl _ _ 22 rfl w w.heap.size 5 Tryz.underlying22 (by kernel_rfl) _ (O ++ P) rfl (by exact HO2.out) _ [0] rfl (by exact hrd2.out) (by have := hl0.out; have := hPl.out; simp; omega) ?_; intro a2 co2 w2 hown2 hb2; obtain ⟨n2, hn2⟩ : ∃ n, n = ((O ++ P) ++ [0]).length := ⟨_, rfl⟩; rw [← hn2] at hown2 ⊢; have N2 := hide hn2; have HO2 := hide hown2; have HB2 := hide hb2; skip; clear hn2 hown2 hb2)
                    have hREL : Hid (RpRel s w (.slice a2 n2 co2) (.int .i64 ((k : Int) + q)) w2) := hide ⟨O ++ P ++ [0], k + q, a2, n2, co2, rfl, by simp, by have := HM.out; omega, by
                      have h1 := N2.out; have h2 := hn2.out
                      rw [List.length_append, h2] at h1
                      simp at h1
                      omega, N2, HO2, hop3⟩
                    exact ⟨hREL.out, by show j - ((k : Int) + q).toNat < j - ((k : Nat) : Int).toNat; omega⟩
            · obtain rfl : k = j := by omega
              have hq : openQ s = some O := by
                rw [hop.out, List.drop_eq_nil_of_le (by have := HM.out; omega), openQ_nil]
                simp
              have ho := hide (HQS.out O hq)
              have hr1 : RdB wr (.slice aO nO cO) O := by have := ownsRow_rd hO.out.1; have h2 := hnO.out; subst h2; exact this
              have HR1 := hide hr1
              have hHO := hO.out.2.2
              have hl0 : nO ≤ 1048576 := by omega
              have hlw : Hid (∀ k, (Value.slice aO nO cO).ownBlock = some k → k < wr.heap.size) := hide fun k hk => (hO.out.1.lt k hk).2
              have hcap2 : nO ≤ cO ∧ cO ≤ 9223372036854775807 := by have h1 := hO.out.1; rw [← hnO.out] at h1; exact ownsRow_cap h1
              have g3 := HW.out k (by omega)
              have i1 : (k : Int) + 1 ≤ c := by omega
              have i2 : (0 : Int) ≤ (k : Int) + 1 := by omega
              have HT := hide ((HX.out.low hO.out.2.1).upto HN.out (k + 1) c (k + 1) (by have := HN.out; simp; omega))
              obtain ⟨T, hT⟩ : ∃ T, T = b.take (k + 1) := ⟨_, rfl⟩
              rw [← hT] at HT ho
              have hoN : Hid (∀ x, opened b = some x → ((k : Int) + 1) = oN b) := hide fun x hx => by
                rw [(opened_some hx).2.1, ← HS.out, ← HM.out]
                rfl
              obtain ⟨q, hqq⟩ : ∃ q, q = (wrapW O == T) := ⟨_, rfl⟩
              have HQQ := hide hqq
              clear hq hr1 hT hqq
              go_wp2
              refine wp_region_three 9 77 (by kernel_rfl) (by kernel_rfl) rfl (by kernel_rfl) (fun D v w' => Below wr.heap.size wr w' ∧ (D 1 = true → RdB w' (v 1) (wrapW O))) (fun _ => undef) ⟨(Below.refl _ _).drew, fun h => by cases h⟩ ?_
              simp only [List.take_succ_cons, List.take_zero, List.drop_succ_cons, List.drop_zero]
              iterate 1 (refine Hav3.read (e := ?_) (fun v => by rfl) (fun D v w h => h) (fun D v w' hD hS => ?_) ?_; rotate_left; (skip; clear hS hD; first | (go_simp; done) | (go_simp; with_reducible rfl)); go_simp)
              refine Hav3.rel (fun v => by rfl) (fun D v w' hD hS => ?_) ?_
              · have HS := hide hS.1
                clear hS hD
                have HR' := hide (HR1.out.low HS.out)
                have hs' := HS.out.size
                go_simp
                go_at_call 62
                refine (ref_Wrap O aO nO cO w' hnO.out HR'.out hcap2.1 hcap2.2 (by omega) (fun k hk => by have := hlw.out k hk; omega)).mono ?_
                rintro e w'' ⟨a3, n3, c3, rfl, hn3, ho3⟩
                refine ⟨HS.out.trans (ho3.2.1.mono hs'), ?_⟩
                intro _
                subst hn3
                exact ownsRow_rd ho3.1
              go_simp
              iterate 1 (refine Hav3.read (e := ?_) (fun v => by rfl) (fun D v w h => h) (fun D v w' hD hS => ?_) ?_; rotate_left; (have v1 := convert_rd _ _ _ (hS.2 (hD.pre 1 (by kernel_rfl))); clear hS hD; first | (go_simp; done) | (go_simp; with_reducible rfl)); go_simp)
              iterate 4 (refine Hav3.read (e := ?_) (fun v => by rfl) (fun D v w h => h) (fun D v w' hD hS => ?_) ?_; rotate_left; (skip; clear hS hD; first | (go_simp; done) | (go_simp; with_reducible rfl)); go_simp)
              iterate 1 (refine Hav3.read (e := ?_) (fun v => by rfl) (fun D v w h => h) (fun D v w' hD hS => ?_) ?_; rotate_left; (have v1 := convert_rd _ _ _ (HT.out.low hS.1); clear hS hD; first | (go_simp; done) | (go_simp; with_reducible rfl)); go_simp)
              iterate 1 (refine Hav3.read (e := ?_) (fun v => by rfl) (fun D v w h => h) (fun D v w' hD hS => ?_) ?_; rotate_left; (skip; clear hS hD; first | (go_simp; done) | (go_simp; with_reducible rfl)); go_simp)
              refine Hav3.fin (fun v w' hS => ?_)
              have HS := hide hS.1
              clear hS
              have HB := hide (hO.out.2.1.trans (HS.out.mono hHO))
              by_cases hw : wrapW O = T
              · rw [if_pos hw] at ho
                have e1 : (wrapW O == T) = true := by simpa using hw
                rw [e1]
                have HR5 := hide (hO.out.to HS.out)
                have HK := hide (hoN.out O ho.out)
                clear e1 hw
                go_wp2
                go_ret3
                exact rpTold_some ho.out (by have h1 := HR5.out.1; exact h1) hnO.out HK.out HB.out
              · rw [if_neg hw] at ho
                have e1 : (wrapW O == T) = false := by simpa using hw
                rw [e1]
                clear e1 hw
                go_wp2
                go_ret3
                exact rpTold_none ho.out HB.out
end Go.Proofs.YtglgjakjhkdoaaaGreatDoor
