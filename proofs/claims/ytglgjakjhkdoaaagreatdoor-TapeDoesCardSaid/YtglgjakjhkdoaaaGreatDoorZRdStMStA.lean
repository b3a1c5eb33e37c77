/-
What a slice reads as: heads, addresses, and a list of lists of bytes.
Bytes that are wrapped without noughts, as plain data: how they are wrapped, what is opened. No program.
Walks over package bytes at one nought: IndexByte, Index.
-/
import Derived.Test.YtglgjakjhkdoaaaGreatDoorBase
import Derived.Test.YtglgjakjhkdoaaaGreatDoorRows
import Derived.Lib.BytesEntry
import Derived.Lib.Walk
import Derived.ProofKit
namespace Go.Proofs.YtglgjakjhkdoaaaGreatDoor
open Go.RowKit
set_option linter.unusedVariables false
set_option linter.unusedSimpArgs false

theorem Rd.addr {w : World} {x : Value} {size m : Nat} {xs : List Value} (h : Rd w x size m xs) (hp : 0 < m) (hs : 0 < size) : ∃ b off c, x = .slice (some ⟨b, off, none⟩) m c ∧ (∀ j u, xs[j]? = some u → w.cell? ⟨b, off + j, none⟩ = some u) ∧ b < w.heap.size := by
  obtain ⟨hl, ⟨_, hz⟩ | ⟨ad, c, rfl, hc⟩⟩ := h
  · omega
  · have h0 : 0 < xs.length := by rw [hl]; exact Nat.mul_pos hp hs
    have hc0 := hc 0 _ (List.getElem?_eq_getElem h0)
    have hadd : ad.add 0 = ad := by unfold Addr.add; simp
    rw [hadd] at hc0
    obtain ⟨b, off, spot⟩ := ad
    have hsp : spot = none := by
      obtain ⟨e, n, _, _, hsp⟩ := World.shape?_of_cell? hc0
      exact hsp
    subst hsp
    refine ⟨b, off, c, rfl, fun j u hu => ?_, World.block_lt_of_cell? _ _ hc0⟩
    have h1 := hc j u hu
    have hadd : (⟨b, off, none⟩ : Addr).add j = ⟨b, off + j, none⟩ := by unfold Addr.add; split <;> simp_all
    rw [hadd] at h1
    exact h1
theorem Rd.head {w : World} {x : Value} {size m : Nat} {xs : List Value} (h : Rd w x size m xs) : ∃ a c, x = .slice a m c := by
  obtain ⟨hl, ⟨rfl, hz⟩ | ⟨ad, c, rfl, hc⟩⟩ := h
  · exact ⟨none, 0, by rw [hz]⟩
  · exact ⟨_, _, rfl⟩
theorem Rd.low {w w' : World} {x : Value} {size m : Nat} {xs : List Value} (h : Rd w x size m xs) (hb : Below w.heap.size w w') : Rd w' x size m xs := h.kept fun b _ hlt => hb.block b hlt
theorem Rd.chg {w w' : World} {x : Value} {size m : Nat} {xs : List Value} {F F' : List Nat} (h : Rd w x size m xs) (hc : Chg F F' w w') (hx : ∀ k, x.ownBlock = some k → k ∉ F) : Rd w' x size m xs := h.kept fun b hb hlt => hc.block b hlt (hx b hb)
theorem Rd.nil (w : World) (size : Nat) : Rd w (.slice none 0 0) size 0 [] := ⟨by simp, .inl ⟨rfl, rfl⟩⟩

def RdB (w : World) (x : Value) (l : List UInt8) : Prop := Rd w x 1 l.length (bcells l)
theorem RdB.low {w w' : World} {x : Value} {l : List UInt8} (h : RdB w x l) (hb : Below w.heap.size w w') : RdB w' x l := Rd.low h hb
theorem RdB.chg {w w' : World} {x : Value} {l : List UInt8} {F F' : List Nat} (h : RdB w x l) (hc : Chg F F' w w') (hx : ∀ k, x.ownBlock = some k → k ∉ F) : RdB w' x l := Rd.chg h hc hx
theorem RdB.nil (w : World) : RdB w (.slice none 0 0) [] := Rd.nil w 1
theorem RdB.head {w : World} {x : Value} {l : List UInt8} (h : RdB w x l) : ∃ a c, x = .slice a l.length c := Rd.head h
theorem RdB.at {w : World} {x : Value} {l : List UInt8} (h : RdB w x l) {k : Nat} (hk : k < l.length) : ∃ b off c, x = .slice (some ⟨b, off, none⟩) l.length c ∧ w.cell? ⟨b, off + k, none⟩ = some (.int .u8 (l[k].toNat : Nat)) ∧ b < w.heap.size := by
  obtain ⟨b, off, c, rfl, hc, hb⟩ := Rd.addr h (by omega) (by omega)
  exact ⟨b, off, c, rfl, hc k _ (by simp [bcells, hk]), hb⟩
theorem RdB.oneCell {w : World} {x : Value} {l : List UInt8} (h : RdB w x l) : x.oneCell' = true := by obtain ⟨a, c, rfl⟩ := h.head; rfl

def RdBs (w : World) (x : Value) (ls : List (List UInt8)) : Prop := ∃ xs : List Value, Rd w x 1 ls.length xs ∧ xs.length = ls.length ∧ ∀ (i : Nat) (v : Value) (l : List UInt8), xs[i]? = some v → ls[i]? = some l → RdB w v l
theorem RdBs.low {w w' : World} {x : Value} {ls : List (List UInt8)} (h : RdBs w x ls) (hb : Below w.heap.size w w') : RdBs w' x ls := by
  obtain ⟨xs, h1, h2, h3⟩ := h
  exact ⟨xs, h1.low hb, h2, fun i v l hv hl => (h3 i v l hv hl).low hb⟩
theorem RdBs.head {w : World} {x : Value} {ls : List (List UInt8)} (h : RdBs w x ls) : ∃ a c, x = .slice a ls.length c := by
  obtain ⟨xs, h1, _⟩ := h
  exact Rd.head h1
theorem RdBs.nil (w : World) : RdBs w (.slice none 0 0) [] := ⟨[], Rd.nil w 1, rfl, fun i v l h => by simp at h⟩
theorem RdBs.at {w : World} {x : Value} {ls : List (List UInt8)} (h : RdBs w x ls) {k : Nat} (hk : k < ls.length) : ∃ b off c v, x = .slice (some ⟨b, off, none⟩) ls.length c ∧ w.cell? ⟨b, off + k, none⟩ = some v ∧ RdB w v ls[k] ∧ b < w.heap.size := by
  obtain ⟨xs, h1, h2, h3⟩ := h
  obtain ⟨b, off, c, rfl, hc, hb⟩ := Rd.addr h1 (by omega) (by omega)
  have hx : xs[k]? = some (xs[k]'(by omega)) := List.getElem?_eq_getElem (by omega)
  exact ⟨b, off, c, _, rfl, hc k _ hx, h3 k _ _ hx (List.getElem?_eq_getElem hk), hb⟩
theorem bytes_toList (l : List UInt8) : (⟨l.toArray⟩ : ByteArray).toList = l := by
  have key : ∀ (n i : Nat) (r : List UInt8), l.length - i = n → ByteArray.toList.loop ⟨l.toArray⟩ i r = r.reverse ++ l.drop i := by
    intro n
    induction n with
    | zero =>
      intro i r h
      unfold ByteArray.toList.loop
      have : ¬ i < (⟨l.toArray⟩ : ByteArray).size := by simp [ByteArray.size]; omega
      rw [if_neg this, List.drop_eq_nil_of_le (by omega), List.append_nil]
    | succ n ih =>
      intro i r h
      unfold ByteArray.toList.loop
      have hi : i < l.length := by omega
      have : i < (⟨l.toArray⟩ : ByteArray).size := by simpa [ByteArray.size] using hi
      rw [if_pos this, ih (i + 1) _ (by omega), List.drop_eq_getElem_cons hi]
      have e : (⟨l.toArray⟩ : ByteArray).get! i = l[i] := by simp [ByteArray.get!, hi]
      rw [e]
      simp
  have := key (l.length - 0) 0 [] rfl
  simpa [ByteArray.toList] using this
theorem convert_rd (b : List UInt8) (x : Value) (w : World) (h : RdB w x b) : (convert 22 9 x).run Tryz.prog w = .ok (.string ⟨b.toArray⟩) w := by
  obtain ⟨hl, ⟨rfl, hm⟩ | ⟨a, c, rfl, hc⟩⟩ := h
  · have : b = [] := List.eq_nil_of_length_eq_zero hm
    subst this
    exact run_convert_bytes_nil (P := Tryz.prog) (w := w) 22 5 Tryz.underlying22 Tryz.underlying5 0 0 9 Tryz.underlying9
  · exact run_convert_bytes_back (P := Tryz.prog) w 22 9 5 a c b Tryz.underlying22 Tryz.underlying5 Tryz.underlying9 (fun j hj => hc j _ (by simp [bcells, List.getElem?_eq_getElem hj]))
end Go.Proofs.YtglgjakjhkdoaaaGreatDoor

namespace Go.Proofs.YtglgjakjhkdoaaaGreatDoor
set_option linter.unusedVariables false
set_option linter.unusedSimpArgs false

def part (p : List UInt8) : List UInt8 :=
  if h : 254 ≤ p.length then 255 :: (p.take 254 ++ part (p.drop 254)) else UInt8.ofNat (p.length + 1) :: p
termination_by p.length
decreasing_by simp; omega
theorem part_long {p : List UInt8} (h : 254 ≤ p.length) : part p = 255 :: (p.take 254 ++ part (p.drop 254)) := by rw [part, dif_pos h]
theorem part_short {p : List UInt8} (h : p.length < 254) : part p = UInt8.ofNat (p.length + 1) :: p := by rw [part, dif_neg (by omega)]

def splitZ : List UInt8 → List (List UInt8)
  | [] => [[]]
  | c :: l => if c = 0 then [] :: splitZ l else (match splitZ l with | [] => [[c]] | p :: ps => (c :: p) :: ps)
theorem splitZ_ne : ∀ l, splitZ l ≠ []
  | [] => by simp [splitZ]
  | c :: l => by
    unfold splitZ
    split
    · simp
    · split <;> simp
def bodyW (b : List UInt8) : List UInt8 := (splitZ b).flatMap part
def wrapW (b : List UInt8) : List UInt8 := bodyW b ++ [0]
def NoZ (l : List UInt8) : Prop := ∀ c ∈ l, c ≠ 0

theorem splitZ_zero (l : List UInt8) : splitZ (0 :: l) = [] :: splitZ l := by simp [splitZ]
theorem splitZ_noZ : ∀ {o : List UInt8}, NoZ o → splitZ o = [o]
  | [], _ => rfl
  | c :: o, h => by
    have hc := h c (by simp)
    have ih := splitZ_noZ (o := o) fun x hx => h x (by simp [hx])
    unfold splitZ
    rw [if_neg hc, ih]
theorem splitZ_app : ∀ {o : List UInt8}, NoZ o → ∀ (r p : List UInt8) (ps : List (List UInt8)), splitZ r = p :: ps → splitZ (o ++ r) = (o ++ p) :: ps
  | [], _, r, p, ps, h => h
  | c :: o, ho, r, p, ps, h => by
    have hc := ho c (by simp)
    have ih := splitZ_app (o := o) (fun x hx => ho x (by simp [hx])) r p ps h
    rw [List.cons_append]
    show (if c = 0 then [] :: splitZ (o ++ r) else _) = _
    rw [if_neg hc, ih]
    rfl
theorem splitZ_pieces : ∀ (b : List UInt8), ∀ p ∈ splitZ b, NoZ p
  | [], p, h => by simp [splitZ] at h; subst h; intro c hc; cases hc
  | c :: l, p, h => by
    have ih := splitZ_pieces l
    unfold splitZ at h
    split at h
    · rcases List.mem_cons.1 h with h | h
      · subst h; intro x hx; cases hx
      · exact ih p h
    · rename_i hc
      split at h
      · rename_i e; exact absurd e (splitZ_ne l)
      · rename_i q qs e
        rw [e] at ih
        rcases List.mem_cons.1 h with h | h
        · subst h
          intro x hx
          rcases List.mem_cons.1 hx with hx | hx
          · subst hx; exact hc
          · exact ih q (by simp) x hx
        · exact ih p (by simp [h])
def joinZ : List (List UInt8) → List UInt8
  | [] => []
  | [p] => p
  | p :: q :: ps => p ++ 0 :: joinZ (q :: ps)
theorem joinZ_cons {p : List UInt8} {ps : List (List UInt8)} (h : ps ≠ []) : joinZ (p :: ps) = p ++ 0 :: joinZ ps := by
  cases ps with
  | nil => exact absurd rfl h
  | cons q ps => rfl
theorem joinZ_push (c : UInt8) (p : List UInt8) (ps : List (List UInt8)) : joinZ ((c :: p) :: ps) = c :: joinZ (p :: ps) := by
  cases ps <;> rfl
theorem join_split : ∀ b : List UInt8, joinZ (splitZ b) = b
  | [] => rfl
  | c :: l => by
    have ih := join_split l
    unfold splitZ
    split
    · rename_i hc
      rw [joinZ_cons (splitZ_ne l), ih, hc]
      rfl
    · split
      · rename_i e; exact absurd e (splitZ_ne l)
      · rename_i q qs e
        rw [e] at ih
        rw [joinZ_push, ih]

theorem part_ne (p : List UInt8) : part p ≠ [] := by
  unfold part
  split <;> simp
theorem toNat_ofNat_lt {n : Nat} (h : n < 256) : (UInt8.ofNat n).toNat = n := by rw [UInt8.toNat_ofNat']; omega
theorem part_noZ : ∀ (n : Nat) {p : List UInt8}, p.length ≤ n → NoZ p → NoZ (part p)
  | n, p, hn, h => by
    by_cases hl : 254 ≤ p.length
    · rw [part_long hl]
      cases n with
      | zero => omega
      | succ n =>
        have ih := part_noZ n (p := p.drop 254) (by simp; omega) fun c hc => h c (List.mem_of_mem_drop hc)
        intro c hc
        rcases List.mem_cons.1 hc with hc | hc
        · subst hc; decide
        rcases List.mem_append.1 hc with hc | hc
        · exact h c (List.mem_of_mem_take hc)
        · exact ih c hc
    · rw [part_short (by omega)]
      intro c hc
      rcases List.mem_cons.1 hc with hc | hc
      · subst hc
        intro e
        have := congrArg UInt8.toNat e
        rw [toNat_ofNat_lt (by omega)] at this
        simp at this
      · exact h c hc
theorem bodyW_noZ (b : List UInt8) : NoZ (bodyW b) := by
  intro c hc
  obtain ⟨p, hp, hc⟩ := List.mem_flatMap.1 hc
  exact part_noZ _ (Nat.le_refl _) (splitZ_pieces b p hp) c hc

def openR (s : List UInt8) (long : Bool) : Option (List UInt8) :=
  match s with
  | [] => if long then none else some []
  | c :: l =>
    if h : 0 < c.toNat ∧ c.toNat ≤ l.length + 1 then
      (openR (l.drop (c.toNat - 1)) (c == 255)).map fun r => l.take (c.toNat - 1) ++ ((if c ≠ 255 ∧ l.drop (c.toNat - 1) ≠ [] then [0] else []) ++ r)
    else none
termination_by s.length
decreasing_by simp; omega
theorem openR_nil (long : Bool) : openR [] long = if long then none else some [] := by rw [openR]
theorem openR_cons (c : UInt8) (l : List UInt8) (long : Bool) (h : 0 < c.toNat ∧ c.toNat ≤ l.length + 1) :
    openR (c :: l) long = (openR (l.drop (c.toNat - 1)) (c == 255)).map fun r => l.take (c.toNat - 1) ++ ((if c ≠ 255 ∧ l.drop (c.toNat - 1) ≠ [] then [0] else []) ++ r) := by rw [openR, dif_pos h]
theorem openR_no (c : UInt8) (l : List UInt8) (long : Bool) (h : ¬ (0 < c.toNat ∧ c.toNat ≤ l.length + 1)) : openR (c :: l) long = none := by rw [openR, dif_neg h]

theorem open_part : ∀ (n : Nat) (p rest : List UInt8) (long : Bool), p.length ≤ n → openR (part p ++ rest) long = (openR rest false).map fun r => p ++ ((if rest ≠ [] then [0] else []) ++ r)
  | n, p, rest, long, hn => by
    by_cases hl : 254 ≤ p.length
    · cases n with
      | zero => omega
      | succ n =>
        rw [part_long hl, List.cons_append, openR_cons _ _ _ (by simp; omega)]
        have e : (255 : UInt8).toNat - 1 = 254 := rfl
        have hd : (p.take 254 ++ part (p.drop 254) ++ rest).drop 254 = part (p.drop 254) ++ rest := by
          rw [List.append_assoc, List.drop_append_of_le_length (by simp; omega), List.drop_of_length_le (by simp; omega), List.nil_append]
        have ht : (p.take 254 ++ part (p.drop 254) ++ rest).take 254 = p.take 254 := by
          rw [List.append_assoc, List.take_append_of_le_length (by simp; omega), List.take_of_length_le (by simp; omega)]
        rw [e, hd, ht, open_part n (p.drop 254) rest _ (by simp; omega)]
        simp only [ne_eq, not_true_eq_false, false_and, if_false, List.nil_append, Option.map_map]
        congr 1
        funext r
        simp only [Function.comp]
        rw [← List.append_assoc, List.take_append_drop]
    · have hc : (UInt8.ofNat (p.length + 1)).toNat = p.length + 1 := toNat_ofNat_lt (by omega)
      have hne : UInt8.ofNat (p.length + 1) ≠ 255 := fun e => by
        have := congrArg UInt8.toNat e
        rw [hc] at this
        simp at this
        omega
      have hb : (UInt8.ofNat (p.length + 1) == 255) = false := by simpa using hne
      rw [part_short (by omega), List.cons_append, openR_cons _ _ _ (by rw [hc]; simp)]
      have e : (UInt8.ofNat (p.length + 1)).toNat - 1 = p.length := by omega
      rw [e, hb, List.drop_left' rfl, List.take_left' rfl]
      simp only [ne_eq, hne, not_false_eq_true, true_and]
theorem open_parts : ∀ (ps : List (List UInt8)) (long : Bool), ps ≠ [] → openR (ps.flatMap part) long = some (joinZ ps)
  | [], _, h => absurd rfl h
  | [p], long, _ => by
    have := open_part p.length p [] long (Nat.le_refl _)
    simpa [openR_nil, joinZ] using this
  | p :: q :: ps, long, _ => by
    have ih := open_parts (q :: ps) false (by simp)
    have hne : (q :: ps).flatMap part ≠ [] := by
      rw [List.flatMap_cons]
      intro e
      exact part_ne q (List.append_eq_nil_iff.1 e).1
    rw [List.flatMap_cons, open_part p.length p _ long (Nat.le_refl _), ih, Option.map_some, if_pos hne]
    rfl
theorem open_body (b : List UInt8) : openR (bodyW b) false = some b := by
  unfold bodyW
  rw [open_parts _ _ (splitZ_ne b), join_split]
theorem body_open : ∀ (n : Nat) (s : List UInt8) (long : Bool) (x : List UInt8), s.length ≤ n → s ≠ [] → NoZ s → openR s long = some x → s = bodyW x
  | n, [], long, x, _, h, _, _ => absurd rfl h
  | 0, c :: l, long, x, hn, _, _, _ => by simp at hn
  | n + 1, c :: l, long, x, hn, _, hz, h => by
    by_cases hc : 0 < c.toNat ∧ c.toNat ≤ l.length + 1
    · rw [openR_cons c l long hc] at h
      obtain ⟨r, hr, hx⟩ := Option.map_eq_some_iff.1 h
      have hcl := c.toNat_lt
      have hzt : NoZ (l.take (c.toNat - 1)) := fun y hy => hz y (List.mem_cons_of_mem _ (List.mem_of_mem_take hy))
      have hzd : NoZ (l.drop (c.toNat - 1)) := fun y hy => hz y (List.mem_cons_of_mem _ (List.mem_of_mem_drop hy))
      have hlt : (l.take (c.toNat - 1)).length = c.toNat - 1 := by simp; omega
      have hsp : l = l.take (c.toNat - 1) ++ l.drop (c.toNat - 1) := (List.take_append_drop _ _).symm
      obtain ⟨o, ho⟩ : ∃ o, o = l.take (c.toNat - 1) := ⟨_, rfl⟩
      obtain ⟨t, ht⟩ : ∃ t, t = l.drop (c.toNat - 1) := ⟨_, rfl⟩
      rw [← ho] at hx hzt hlt
      rw [← ht] at hr hx hzd
      have htl : t.length ≤ n := by rw [ht]; simp at hn ⊢; omega
      rw [← ho, ← ht] at hsp
      rw [hsp]
      by_cases h255 : c = 255
      · subst h255
        have hr1 : openR t true = some r := hr
        have hol : o.length = 254 := hlt
        have htn : t ≠ [] := by intro e; rw [e, openR_nil] at hr1; cases hr1
        have ih := body_open n t true r htl htn hzd hr1
        simp at hx
        subst hx
        unfold bodyW at ih ⊢
        obtain ⟨p, ps, hp⟩ : ∃ p ps, splitZ r = p :: ps := by
          cases e : splitZ r with
          | nil => exact absurd e (splitZ_ne r)
          | cons p ps => exact ⟨p, ps, rfl⟩
        rw [splitZ_app hzt r p ps hp, List.flatMap_cons, part_long (by simp; omega)]
        rw [hp, List.flatMap_cons] at ih
        rw [List.take_append_of_le_length (by omega), List.take_of_length_le (by omega), List.drop_append_of_le_length (by omega), List.drop_of_length_le (by omega), List.nil_append, ih]
        simp
      · have hbf : (c == 255) = false := by simpa using h255
        rw [hbf] at hr
        have hc255 : c.toNat ≠ 255 := fun e => h255 (UInt8.toNat.inj e)
        have hpo : part o = c :: o := by
          rw [part_short (by omega), hlt, show c.toNat - 1 + 1 = c.toNat by omega]
          congr 1
          exact UInt8.toNat.inj (toNat_ofNat_lt (by omega))
        by_cases htn : t = []
        · subst htn
          rw [openR_nil] at hr
          simp at hr
          subst hr
          simp at hx
          subst hx
          unfold bodyW
          rw [splitZ_noZ hzt]
          simp [hpo]
        · have ih := body_open n t false r htl htn hzd hr
          simp [h255, htn] at hx
          subst hx
          unfold bodyW at ih ⊢
          have hs : splitZ (o ++ 0 :: r) = o :: splitZ r := by
            have := splitZ_app hzt (0 :: r) [] (splitZ r) (splitZ_zero r)
            rwa [List.append_nil] at this
          rw [hs, List.flatMap_cons, hpo, ih]
          simp
    · rw [openR_no c l long hc] at h
      cases h
theorem body_ne (b : List UInt8) : bodyW b ≠ [] := by
  unfold bodyW
  cases e : splitZ b with
  | nil => exact absurd e (splitZ_ne b)
  | cons p ps =>
    rw [List.flatMap_cons]
    intro h
    exact part_ne p (List.append_eq_nil_iff.1 h).1
theorem wrap_inj {a b : List UInt8} (h : wrapW a = wrapW b) : a = b := by
  have h1 : bodyW a = bodyW b := List.append_cancel_right h
  have := open_body a
  rw [h1, open_body b] at this
  exact (Option.some.inj this).symm
theorem part_length : ∀ (n : Nat) (p : List UInt8), p.length ≤ n → (part p).length = p.length + 1 + p.length / 254
  | n, p, hn => by
    by_cases hl : 254 ≤ p.length
    · cases n with
      | zero => omega
      | succ n =>
        rw [part_long hl, List.length_cons, List.length_append, part_length n (p.drop 254) (by simp; omega)]
        simp
        omega
    · rw [part_short (by omega), List.length_cons]; omega
theorem joinZ_length : ∀ ps : List (List UInt8), ps ≠ [] → (ps.flatMap part).length ≤ (joinZ ps).length + 1 + (joinZ ps).length / 254
  | [], h => absurd rfl h
  | [p], _ => by simp [joinZ, part_length p.length p (Nat.le_refl _)]
  | p :: q :: ps, _ => by
    have ih := joinZ_length (q :: ps) (by simp)
    rw [List.flatMap_cons, List.length_append, part_length p.length p (Nat.le_refl _), joinZ_cons (by simp), List.length_append, List.length_cons]
    omega
theorem wrap_length (b : List UInt8) : (wrapW b).length ≤ b.length + b.length / 254 + 2 := by
  have := joinZ_length _ (splitZ_ne b)
  rw [join_split] at this
  unfold wrapW bodyW
  rw [List.length_append, show ([0] : List UInt8).length = 1 from rfl]
  omega
end Go.Proofs.YtglgjakjhkdoaaaGreatDoor

namespace Go.Proofs.YtglgjakjhkdoaaaGreatDoor
open Go.RowKit
set_option linter.unusedVariables false
set_option linter.unusedSimpArgs false

theorem noZ_nil : NoZ [] := by
  intro c h
  cases h
theorem noZ_cons {c : UInt8} {l : List UInt8} (hc : c ≠ 0) (h : NoZ l) : NoZ (c :: l) := by
  intro x hx
  rcases List.mem_cons.1 hx with e | hx
  · rw [e]
    exact hc
  · exact h x hx
theorem split_cases : ∀ l : List UInt8, (NoZ l ∧ Lib.indexByte l 0 = -1) ∨ ∃ o r, l = o ++ 0 :: r ∧ NoZ o ∧ Lib.indexByte l 0 = (o.length : Int)
  | [] => .inl ⟨noZ_nil, rfl⟩
  | c :: l => by
    by_cases hc : c = 0
    · subst hc
      refine .inr ⟨[], l, rfl, noZ_nil, ?_⟩
      simp [Lib.indexByte]
    · rcases split_cases l with ⟨hz, hi⟩ | ⟨o, r, rfl, hz, hi⟩
      · exact .inl ⟨noZ_cons hc hz, by simp [Lib.indexByte, hc, hi]⟩
      · refine .inr ⟨c :: o, r, rfl, noZ_cons hc hz, ?_⟩
        have : ¬ ((o.length : Int) = -1) := by omega
        simp [Lib.indexByte, hc, hi, this]

theorem bytes_ints : ∀ l : List UInt8, Lib.bytesOf (l.map fun b => (b.toNat : Int)) = l
  | [] => rfl
  | c :: l => by
    have ih := bytes_ints l
    simp only [Lib.bytesOf, List.map_cons, Int.toNat_natCast] at ih ⊢
    rw [ih]
    congr 1
    exact UInt8.ofNat_toNat

theorem run_indexRd {P : Program} (w : World) (x : Value) (l : List UInt8) (h : RdB w x l) (c : Int) :
    (Extern.BytealgIndexByte.indexByte #[x, .int .u8 c]).run P w = .ok (.int .i64 (Lib.indexByte l c.toNat.toUInt8)) w := by
  obtain ⟨hl, ⟨rfl, hz⟩ | ⟨ad, cap, rfl, hc⟩⟩ := h
  · obtain rfl : l = [] := List.eq_nil_of_length_eq_zero hz
    exact Lib.run_indexByteNil w 0 0 c
  · obtain ⟨xs, hxs⟩ : ∃ xs : List Int, xs = l.map fun b => (b.toNat : Int) := ⟨_, rfl⟩
    have hb : Lib.bytesOf xs = l := by rw [hxs, bytes_ints]
    have hn : xs.length = l.length := by simp [hxs]
    have hl := Lib.run_loadBytesX (P := P) w xs ad .empty (fun j y hj => by
      refine hc j _ ?_
      rw [hxs] at hj
      simp only [List.getElem?_map, Option.map_eq_some_iff] at hj
      obtain ⟨u, hu, rfl⟩ := hj
      simp [bcells, hu])
    rw [hn, hb] at hl
    have hs := Lib.run_indexByteString (P := P) ⟨l.toArray⟩ c w
    have he : (⟨ByteArray.empty.data ++ l.toArray⟩ : ByteArray) = ⟨l.toArray⟩ := by
      apply ByteArray.ext
      show (#[] : Array UInt8) ++ l.toArray = l.toArray
      simp
    rw [he] at hl
    change Sem.run P (do
      let b ← Extern.Bytes.bytesOf (.slice (some ad) l.length cap)
      let c ← Extern.Bytes.asByte (.int .u8 c)
      match (List.range b.size).find? fun i => b[i]! == c with
      | some i => pure (goInt i)
      | none => pure (goInt (-1))) w = _
    change Sem.run P (do
      let b ← Extern.Bytes.bytesOf (.string ⟨l.toArray⟩)
      let c ← Extern.Bytes.asByte (.int .u8 c)
      match (List.range b.size).find? fun i => b[i]! == c with
      | some i => pure (goInt i)
      | none => pure (goInt (-1))) w = _ at hs
    simp only [Extern.Bytes.bytesOf, Sem.run_bind, Sem.run_pure, hl, Result.andThen] at hs ⊢
    exact hs

set_option maxRecDepth 100000 in
set_option maxHeartbeats 1600000 in
theorem bt_IndexByte (x : Value) (l : List UInt8) (w : World) (h : RdB w x l) :
    Calls Tryz.prog 84 #[x, .int .u8 0] w fun e w' => e = .returned (.int .i64 (Lib.indexByte l 0)) ∧ w' = w := by
  have hr := run_indexRd (P := Tryz.prog) w x l h 0
  obtain ⟨a, c, rfl⟩ := h.head
  go_enter Tryz.func84, Tryz.ntmps84
  go_wp2
  rw [run_callFunc_extern Tryz.func92 (by kernel_rfl) (by kernel_rfl) (by kernel_rfl) (e := Extern.BytealgIndexByte.indexByte) (by kernel_rfl), hr]
  simp only [Result.andThen]
  rw [Oper.upon_value]
  go_wp2
  go_ret
  exact ⟨rfl, rfl⟩

set_option maxRecDepth 100000 in
set_option maxHeartbeats 3200000 in
theorem bt_Index (x : Value) (l : List UInt8) (b c : Nat) (w : World) (h : RdB w x l) (hs : w.cell? ⟨b, 0, none⟩ = some (.int .u8 0)) :
    Calls Tryz.prog 88 #[x, .slice (some ⟨b, 0, none⟩) 1 c] w fun e w' => e = .returned (.int .i64 (Lib.indexByte l 0)) ∧ w' = w := by
  have H := hide (bt_IndexByte x l w h)
  obtain ⟨a, c', rfl⟩ := h.head
  clear h
  go_enter Tryz.func88, Tryz.ntmps88
  go_wp2_with (refine H.out.mono ?_; rintro e w' ⟨rfl, rfl⟩)
  go_ret
  exact ⟨rfl, rfl⟩
end Go.Proofs.YtglgjakjhkdoaaaGreatDoor
