/-
  Bytes that are wrapped without noughts, as plain data: how they are wrapped, what is opened. No program.
-/
import Derived.Test.YtglgjakjhkdoaaaDoorRows
namespace Go.Proofs.YtglgjakjhkdoaaaDoor
set_option linter.unusedVariables false
set_option linter.unusedSimpArgs false

/-- a piece without noughts, written -/
def part (p : List UInt8) : List UInt8 :=
  if h : 254 ≤ p.length then 255 :: (p.take 254 ++ part (p.drop 254)) else UInt8.ofNat (p.length + 1) :: p
termination_by p.length
decreasing_by simp; omega
theorem part_long {p : List UInt8} (h : 254 ≤ p.length) : part p = 255 :: (p.take 254 ++ part (p.drop 254)) := by rw [part, dif_pos h]
theorem part_short {p : List UInt8} (h : p.length < 254) : part p = UInt8.ofNat (p.length + 1) :: p := by rw [part, dif_neg (by omega)]

/-- the pieces between noughts -/
def splitZ : List UInt8 → List (List UInt8)
  | [] => [[]]
  | c :: l => if c = 0 then [] :: splitZ l else (match splitZ l with | [] => [[c]] | p :: ps => (c :: p) :: ps)
theorem splitZ_ne : ∀ l, splitZ l ≠ []
  | [] => by simp [splitZ]
  | c :: l => by
    unfold splitZ
    split
    · simp
    · split <;> simp
def bodyW (b : List UInt8) : List UInt8 := (splitZ b).flatMap part
def wrapW (b : List UInt8) : List UInt8 := bodyW b ++ [0]
def NoZ (l : List UInt8) : Prop := ∀ c ∈ l, c ≠ 0

theorem splitZ_zero (l : List UInt8) : splitZ (0 :: l) = [] :: splitZ l := by simp [splitZ]
theorem splitZ_noZ : ∀ {o : List UInt8}, NoZ o → splitZ o = [o]
  | [], _ => rfl
  | c :: o, h => by
    have hc := h c (by simp)
    have ih := splitZ_noZ (o := o) fun x hx => h x (by simp [hx])
    unfold splitZ
    rw [if_neg hc, ih]
/-- a piece without noughts ahead -/
theorem splitZ_app : ∀ {o : List UInt8}, NoZ o → ∀ (r p : List UInt8) (ps : List (List UInt8)), splitZ r = p :: ps → splitZ (o ++ r) = (o ++ p) :: ps
  | [], _, r, p, ps, h => h
  | c :: o, ho, r, p, ps, h => by
    have hc := ho c (by simp)
    have ih := splitZ_app (o := o) (fun x hx => ho x (by simp [hx])) r p ps h
    rw [List.cons_append]
    show (if c = 0 then [] :: splitZ (o ++ r) else _) = _
    rw [if_neg hc, ih]
    rfl
theorem splitZ_pieces : ∀ (b : List UInt8), ∀ p ∈ splitZ b, NoZ p
  | [], p, h => by simp [splitZ] at h; subst h; intro c hc; cases hc
  | c :: l, p, h => by
    have ih := splitZ_pieces l
    unfold splitZ at h
    split at h
    · rcases List.mem_cons.1 h with h | h
      · subst h; intro x hx; cases hx
      · exact ih p h
    · rename_i hc
      split at h
      · rename_i e; exact absurd e (splitZ_ne l)
      · rename_i q qs e
        rw [e] at ih
        rcases List.mem_cons.1 h with h | h
        · subst h
          intro x hx
          rcases List.mem_cons.1 hx with hx | hx
          · subst hx; exact hc
          · exact ih q (by simp) x hx
        · exact ih p (by simp [h])
/-- the pieces, joined by noughts -/
def joinZ : List (List UInt8) → List UInt8
  | [] => []
  | [p] => p
  | p :: q :: ps => p ++ 0 :: joinZ (q :: ps)
theorem joinZ_cons {p : List UInt8} {ps : List (List UInt8)} (h : ps ≠ []) : joinZ (p :: ps) = p ++ 0 :: joinZ ps := by
  cases ps with
  | nil => exact absurd rfl h
  | cons q ps => rfl
theorem joinZ_push (c : UInt8) (p : List UInt8) (ps : List (List UInt8)) : joinZ ((c :: p) :: ps) = c :: joinZ (p :: ps) := by
  cases ps <;> rfl
theorem join_split : ∀ b : List UInt8, joinZ (splitZ b) = b
  | [] => rfl
  | c :: l => by
    have ih := join_split l
    unfold splitZ
    split
    · rename_i hc
      rw [joinZ_cons (splitZ_ne l), ih, hc]
      rfl
    · split
      · rename_i e; exact absurd e (splitZ_ne l)
      · rename_i q qs e
        rw [e] at ih
        rw [joinZ_push, ih]

theorem part_ne (p : List UInt8) : part p ≠ [] := by
  unfold part
  split <;> simp
theorem toNat_ofNat_lt {n : Nat} (h : n < 256) : (UInt8.ofNat n).toNat = n := by rw [UInt8.toNat_ofNat']; omega
theorem part_noZ : ∀ (n : Nat) {p : List UInt8}, p.length ≤ n → NoZ p → NoZ (part p)
  | n, p, hn, h => by
    by_cases hl : 254 ≤ p.length
    · rw [part_long hl]
      cases n with
      | zero => omega
      | succ n =>
        have ih := part_noZ n (p := p.drop 254) (by simp; omega) fun c hc => h c (List.mem_of_mem_drop hc)
        intro c hc
        rcases List.mem_cons.1 hc with hc | hc
        · subst hc; decide
        rcases List.mem_append.1 hc with hc | hc
        · exact h c (List.mem_of_mem_take hc)
        · exact ih c hc
    · rw [part_short (by omega)]
      intro c hc
      rcases List.mem_cons.1 hc with hc | hc
      · subst hc
        intro e
        have := congrArg UInt8.toNat e
        rw [toNat_ofNat_lt (by omega)] at this
        simp at this
      · exact h c hc
theorem bodyW_noZ (b : List UInt8) : NoZ (bodyW b) := by
  intro c hc
  obtain ⟨p, hp, hc⟩ := List.mem_flatMap.1 hc
  exact part_noZ _ (Nat.le_refl _) (splitZ_pieces b p hp) c hc

/-- what bytes without noughts are opened as -/
def openR (s : List UInt8) (long : Bool) : Option (List UInt8) :=
  match s with
  | [] => if long then none else some []
  | c :: l =>
    if h : 0 < c.toNat ∧ c.toNat ≤ l.length + 1 then
      (openR (l.drop (c.toNat - 1)) (c == 255)).map fun r => l.take (c.toNat - 1) ++ ((if c ≠ 255 ∧ l.drop (c.toNat - 1) ≠ [] then [0] else []) ++ r)
    else none
termination_by s.length
decreasing_by simp; omega
theorem openR_nil (long : Bool) : openR [] long = if long then none else some [] := by rw [openR]
theorem openR_cons (c : UInt8) (l : List UInt8) (long : Bool) (h : 0 < c.toNat ∧ c.toNat ≤ l.length + 1) :
    openR (c :: l) long = (openR (l.drop (c.toNat - 1)) (c == 255)).map fun r => l.take (c.toNat - 1) ++ ((if c ≠ 255 ∧ l.drop (c.toNat - 1) ≠ [] then [0] else []) ++ r) := by rw [openR, dif_pos h]
theorem openR_no (c : UInt8) (l : List UInt8) (long : Bool) (h : ¬ (0 < c.toNat ∧ c.toNat ≤ l.length + 1)) : openR (c :: l) long = none := by rw [openR, dif_neg h]

theorem open_part : ∀ (n : Nat) (p rest : List UInt8) (long : Bool), p.length ≤ n → openR (part p ++ rest) long = (openR rest false).map fun r => p ++ ((if rest ≠ [] then [0] else []) ++ r)
  | n, p, rest, long, hn => by
    by_cases hl : 254 ≤ p.length
    · cases n with
      | zero => omega
      | succ n =>
        rw [part_long hl, List.cons_append, openR_cons _ _ _ (by simp; omega)]
        have e : (255 : UInt8).toNat - 1 = 254 := rfl
        have hd : (p.take 254 ++ part (p.drop 254) ++ rest).drop 254 = part (p.drop 254) ++ rest := by
          rw [List.append_assoc, List.drop_append_of_le_length (by simp; omega), List.drop_of_length_le (by simp; omega), List.nil_append]
        have ht : (p.take 254 ++ part (p.drop 254) ++ rest).take 254 = p.take 254 := by
          rw [List.append_assoc, List.take_append_of_le_length (by simp; omega), List.take_of_length_le (by simp; omega)]
        rw [e, hd, ht, open_part n (p.drop 254) rest _ (by simp; omega)]
        simp only [ne_eq, not_true_eq_false, false_and, if_false, List.nil_append, Option.map_map]
        congr 1
        funext r
        simp only [Function.comp]
        rw [← List.append_assoc, List.take_append_drop]
    · have hc : (UInt8.ofNat (p.length + 1)).toNat = p.length + 1 := toNat_ofNat_lt (by omega)
      have hne : UInt8.ofNat (p.length + 1) ≠ 255 := fun e => by
        have := congrArg UInt8.toNat e
        rw [hc] at this
        simp at this
        omega
      have hb : (UInt8.ofNat (p.length + 1) == 255) = false := by simpa using hne
      rw [part_short (by omega), List.cons_append, openR_cons _ _ _ (by rw [hc]; simp)]
      have e : (UInt8.ofNat (p.length + 1)).toNat - 1 = p.length := by omega
      rw [e, hb, List.drop_left' rfl, List.take_left' rfl]
      simp only [ne_eq, hne, not_false_eq_true, true_and]
theorem open_parts : ∀ (ps : List (List UInt8)) (long : Bool), ps ≠ [] → openR (ps.flatMap part) long = some (joinZ ps)
  | [], _, h => absurd rfl h
  | [p], long, _ => by
    have := open_part p.length p [] long (Nat.le_refl _)
    simpa [openR_nil, joinZ] using this
  | p :: q :: ps, long, _ => by
    have ih := open_parts (q :: ps) false (by simp)
    have hne : (q :: ps).flatMap part ≠ [] := by
      rw [List.flatMap_cons]
      intro e
      exact part_ne q (List.append_eq_nil_iff.1 e).1
    rw [List.flatMap_cons, open_part p.length p _ long (Nat.le_refl _), ih, Option.map_some, if_pos hne]
    rfl
theorem open_body (b : List UInt8) : openR (bodyW b) false = some b := by
  unfold bodyW
  rw [open_parts _ _ (splitZ_ne b), join_split]
theorem body_open : ∀ (n : Nat) (s : List UInt8) (long : Bool) (x : List UInt8), s.length ≤ n → s ≠ [] → NoZ s → openR s long = some x → s = bodyW x
  | n, [], long, x, _, h, _, _ => absurd rfl h
  | 0, c :: l, long, x, hn, _, _, _ => by simp at hn
  | n + 1, c :: l, long, x, hn, _, hz, h => by
    by_cases hc : 0 < c.toNat ∧ c.toNat ≤ l.length + 1
    · rw [openR_cons c l long hc] at h
      obtain ⟨r, hr, hx⟩ := Option.map_eq_some_iff.1 h
      have hcl := c.toNat_lt
      have hzt : NoZ (l.take (c.toNat - 1)) := fun y hy => hz y (List.mem_cons_of_mem _ (List.mem_of_mem_take hy))
      have hzd : NoZ (l.drop (c.toNat - 1)) := fun y hy => hz y (List.mem_cons_of_mem _ (List.mem_of_mem_drop hy))
      have hlt : (l.take (c.toNat - 1)).length = c.toNat - 1 := by simp; omega
      have hsp : l = l.take (c.toNat - 1) ++ l.drop (c.toNat - 1) := (List.take_append_drop _ _).symm
      obtain ⟨o, ho⟩ : ∃ o, o = l.take (c.toNat - 1) := ⟨_, rfl⟩
      obtain ⟨t, ht⟩ : ∃ t, t = l.drop (c.toNat - 1) := ⟨_, rfl⟩
      rw [← ho] at hx hzt hlt
      rw [← ht] at hr hx hzd
      have htl : t.length ≤ n := by rw [ht]; simp at hn ⊢; omega
      rw [← ho, ← ht] at hsp
      rw [hsp]
      by_cases h255 : c = 255
      · subst h255
        have hr1 : openR t true = some r := hr
        have hol : o.length = 254 := hlt
        have htn : t ≠ [] := by intro e; rw [e, openR_nil] at hr1; cases hr1
        have ih := body_open n t true r htl htn hzd hr1
        simp at hx
        subst hx
        unfold bodyW at ih ⊢
        obtain ⟨p, ps, hp⟩ : ∃ p ps, splitZ r = p :: ps := by
          cases e : splitZ r with
          | nil => exact absurd e (splitZ_ne r)
          | cons p ps => exact ⟨p, ps, rfl⟩
        rw [splitZ_app hzt r p ps hp, List.flatMap_cons, part_long (by simp; omega)]
        rw [hp, List.flatMap_cons] at ih
        rw [List.take_append_of_le_length (by omega), List.take_of_length_le (by omega), List.drop_append_of_le_length (by omega), List.drop_of_length_le (by omega), List.nil_append, ih]
        simp
      · have hbf : (c == 255) = false := by simpa using h255
        rw [hbf] at hr
        have hc255 : c.toNat ≠ 255 := fun e => h255 (UInt8.toNat.inj e)
        have hpo : part o = c :: o := by
          rw [part_short (by omega), hlt, show c.toNat - 1 + 1 = c.toNat by omega]
          congr 1
          exact UInt8.toNat.inj (toNat_ofNat_lt (by omega))
        by_cases htn : t = []
        · subst htn
          rw [openR_nil] at hr
          simp at hr
          subst hr
          simp at hx
          subst hx
          unfold bodyW
          rw [splitZ_noZ hzt]
          simp [hpo]
        · have ih := body_open n t false r htl htn hzd hr
          simp [h255, htn] at hx
          subst hx
          unfold bodyW at ih ⊢
          have hs : splitZ (o ++ 0 :: r) = o :: splitZ r := by
            have := splitZ_app hzt (0 :: r) [] (splitZ r) (splitZ_zero r)
            rwa [List.append_nil] at this
          rw [hs, List.flatMap_cons, hpo, ih]
          simp
    · rw [openR_no c l long hc] at h
      cases h
theorem body_ne (b : List UInt8) : bodyW b ≠ [] := by
  unfold bodyW
  cases e : splitZ b with
  | nil => exact absurd e (splitZ_ne b)
  | cons p ps =>
    rw [List.flatMap_cons]
    intro h
    exact part_ne p (List.append_eq_nil_iff.1 h).1
theorem wrap_inj {a b : List UInt8} (h : wrapW a = wrapW b) : a = b := by
  have h1 : bodyW a = bodyW b := List.append_cancel_right h
  have := open_body a
  rw [h1, open_body b] at this
  exact (Option.some.inj this).symm
theorem part_length : ∀ (n : Nat) (p : List UInt8), p.length ≤ n → (part p).length = p.length + 1 + p.length / 254
  | n, p, hn => by
    by_cases hl : 254 ≤ p.length
    · cases n with
      | zero => omega
      | succ n =>
        rw [part_long hl, List.length_cons, List.length_append, part_length n (p.drop 254) (by simp; omega)]
        simp
        omega
    · rw [part_short (by omega), List.length_cons]; omega
theorem joinZ_length : ∀ ps : List (List UInt8), ps ≠ [] → (ps.flatMap part).length ≤ (joinZ ps).length + 1 + (joinZ ps).length / 254
  | [], h => absurd rfl h
  | [p], _ => by simp [joinZ, part_length p.length p (Nat.le_refl _)]
  | p :: q :: ps, _ => by
    have ih := joinZ_length (q :: ps) (by simp)
    rw [List.flatMap_cons, List.length_append, part_length p.length p (Nat.le_refl _), joinZ_cons (by simp), List.length_append, List.length_cons]
    omega
theorem wrap_length (b : List UInt8) : (wrapW b).length ≤ b.length + b.length / 254 + 2 := by
  have := joinZ_length _ (splitZ_ne b)
  rw [join_split] at this
  unfold wrapW bodyW
  rw [List.length_append, show ([0] : List UInt8).length = 1 from rfl]
  omega
end Go.Proofs.YtglgjakjhkdoaaaDoor
