/-
  The calls of both networks, as steps of a list.
-/
import Derived.Test.YtipobpcafkhknaaNetV
import Derived.Test.YtipobpcafkhknaaReg2
namespace Go.Proofs.Ytipobpcafkhknaa
open Go.RowKit
set_option linter.unusedVariables false
set_option linter.unusedSimpArgs false

theorem ref_drop_none (rb : Nat) (l : List G) (F : List Nat) (i : Int) (w : World) (hn : RefRep w rb l F) (hl : l.length ≤ 4096) (hi : i < 0 ∨ l.length ≤ i) :
    Calls Try.prog 25 #[.pointer (some ⟨rb, 0, none⟩), .int .i64 i] w fun e w' => e = .returned (.bool false) ∧ Below w.heap.size w w' := by
  go_enter Try.func25, Try.ntmps25
  go_wp2_with (go_at_call 23; refine (ref_take_none rb l F _ _ hn hl hi).mono ?_; rintro e w' ⟨rfl, hb⟩)
  go_ret
  exact ⟨rfl, hb.alloc hb.size _⟩

set_option maxRecDepth 100000 in
set_option maxHeartbeats 800000 in
theorem ref_drop (rb : Nat) (l : List G) (F : List Nat) (i : Int) (w : World) (g : G) (hn : RefRep w rb l F) (hl : l.length ≤ 4096) (hi : 0 ≤ i) (hg : l[i.toNat]? = some g) (hgb : ∀ g ∈ l, g.b ≠ []) :
    Calls Try.prog 25 #[.pointer (some ⟨rb, 0, none⟩), .int .i64 i] w (Moved (fun w' F' => RefRep w' rb (l.eraseIdx i.toNat) F') (.bool true) w F) := by
  have HG := hide hg
  have HB := hide hgb
  clear hg hgb
  go_enter Try.func25, Try.ntmps25
  go_wp2_with (go_at_call 23; refine (ref_take rb l F _ _ g hn hl hi HG.out HB.out).mono ?_; rintro e w' ⟨gb, gc, F', rfl, hr, _, _, _, hch⟩)
  go_ret
  exact ⟨rfl, F', hr.same fun k hk => Below.heap_alloc _ _ _ (hr.lt k hk), hch.alloc _⟩

/-- the one at i -/
def atG (l : List G) (i : Int) : Option G := if 0 ≤ i then l[i.toNat]? else none
theorem atG_none {l : List G} {i : Int} (h : atG l i = none) : i < 0 ∨ l.length ≤ i := by
  unfold atG at h
  by_cases hi : 0 ≤ i
  · rw [if_pos hi, List.getElem?_eq_none_iff] at h; omega
  · omega
theorem atG_some {l : List G} {i : Int} {g : G} (h : atG l i = some g) : 0 ≤ i ∧ l[i.toNat]? = some g := by
  unfold atG at h
  by_cases hi : 0 ≤ i
  · rw [if_pos hi] at h; exact ⟨hi, h⟩
  · rw [if_neg hi] at h; cases h

def dropS (l : List G) (i : Int) : List G × Bool := match atG l i with | some _ => (l.eraseIdx i.toNat, true) | none => (l, false)
def twiceS (l : List G) (i : Int) : List G × Bool := match atG l i with | some g => if l.length < 4096 then (l ++ [g], true) else (l, false) | none => (l, false)
def bendS (l : List G) (i k : Int) (x : UInt8) : List G × Bool :=
  match atG l i with
  | some g => if 0 ≤ k ∧ k < g.b.length ∧ x ≠ 0 then (l.set i.toNat { g with b := g.b.set k.toNat (g.b.getD k.toNat 0 ^^^ x), bent := true }, true) else (l, false)
  | none => (l, false)
def sendS (l : List G) (t : Int) (b : List UInt8) : List G × Bool := if t ≤ 1 ∧ 0 < b.length ∧ b.length ≤ 4096 ∧ l.length < 4096 then (l ++ [⟨t, b, false⟩], true) else (l, false)

/-- a step of a network -/
def Stepped (R : World → List G → List Nat → Prop) (w : World) (F : List Nat) (r : List G × Bool) (e : Ending) (w' : World) : Prop :=
  e = .returned (.bool r.2) ∧ ∃ F', R w' r.1 F' ∧ Chg F F' w w'

/-- what both hold -/
structure Good (l : List G) : Prop where
  len : l.length ≤ 4096
  each : ∀ g ∈ l, g.b ≠ [] ∧ g.b.length ≤ 4096 ∧ 0 ≤ g.to ∧ g.to ≤ 1

theorem net_drop_any (nb : Nat) (l : List G) (F : List Nat) (i : Int) (w : World) (hn : NetRep w nb l F) (hl : Good l) :
    Calls Try.prog 24 #[.pointer (some ⟨nb, 0, none⟩), .int .i64 i] w (Stepped (fun w l F => NetRep w nb l F) w F (dropS l i)) := by
  unfold dropS
  cases h : atG l i with
  | none =>
    refine (net_drop_none nb l F i w hn hl.len (atG_none h)).mono ?_
    rintro e w' ⟨rfl, hb⟩
    exact ⟨rfl, F, hn.below hb, Chg.of_below hb⟩
  | some g =>
    refine (net_drop nb l F i w g hn hl.len (atG_some h).1 (atG_some h).2).mono ?_
    rintro e w' ⟨rfl, F', hr, hc⟩
    exact ⟨rfl, F', hr, hc⟩
theorem ref_drop_any (rb : Nat) (l : List G) (F : List Nat) (i : Int) (w : World) (hn : RefRep w rb l F) (hl : Good l) :
    Calls Try.prog 25 #[.pointer (some ⟨rb, 0, none⟩), .int .i64 i] w (Stepped (fun w l F => RefRep w rb l F) w F (dropS l i)) := by
  unfold dropS
  cases h : atG l i with
  | none =>
    refine (ref_drop_none rb l F i w hn hl.len (atG_none h)).mono ?_
    rintro e w' ⟨rfl, hb⟩
    exact ⟨rfl, F, hn.below hb, Chg.of_below hb⟩
  | some g =>
    refine (ref_drop rb l F i w g hn hl.len (atG_some h).1 (atG_some h).2 fun g hg => (hl.each g hg).1).mono ?_
    rintro e w' ⟨rfl, F', hr, hc⟩
    exact ⟨rfl, F', hr, hc⟩
theorem net_twice_any (nb : Nat) (l : List G) (F : List Nat) (i : Int) (w : World) (hn : NetRep w nb l F) (hl : Good l) :
    Calls Try.prog 11 #[.pointer (some ⟨nb, 0, none⟩), .int .i64 i] w (Stepped (fun w l F => NetRep w nb l F) w F (twiceS l i)) := by
  unfold twiceS
  cases h : atG l i with
  | none =>
    refine (net_twice_none nb l F i w hn hl.len (atG_none h)).mono ?_
    rintro e w' ⟨rfl, rfl⟩
    exact ⟨rfl, F, hn, Chg.refl _ _⟩
  | some g =>
    obtain ⟨h1, h2⟩ := atG_some h
    have hlt := (List.getElem?_eq_some_iff.1 h2).1
    simp only
    by_cases hf : l.length < 4096
    · rw [if_pos hf]
      refine (net_twice nb l F i w g hn hf h1 h2 (hl.each g (List.mem_of_getElem? h2)).2.1).mono ?_
      rintro e w' ⟨rfl, F', hr, hc⟩
      exact ⟨rfl, F', hr, hc⟩
    · rw [if_neg hf]
      refine (net_twice_full nb l F i w hn (by have := hl.len; omega) h1 (by omega)).mono ?_
      rintro e w' ⟨rfl, rfl⟩
      exact ⟨rfl, F, hn, Chg.refl _ _⟩
theorem ref_twice_any (rb : Nat) (l : List G) (F : List Nat) (i : Int) (w : World) (hn : RefRep w rb l F) (hl : Good l) :
    Calls Try.prog 26 #[.pointer (some ⟨rb, 0, none⟩), .int .i64 i] w (Stepped (fun w l F => RefRep w rb l F) w F (twiceS l i)) := by
  unfold twiceS
  cases h : atG l i with
  | none =>
    refine (ref_twice_no rb l F i w hn hl.len (by have := atG_none h; omega)).mono ?_
    rintro e w' ⟨rfl, rfl⟩
    exact ⟨rfl, F, hn, Chg.refl _ _⟩
  | some g =>
    obtain ⟨h1, h2⟩ := atG_some h
    simp only
    by_cases hf : l.length < 4096
    · rw [if_pos hf]
      refine (ref_twice rb l F i w g hn hf h1 h2 (hl.each g (List.mem_of_getElem? h2)).1 (hl.each g (List.mem_of_getElem? h2)).2.1).mono ?_
      rintro e w' ⟨rfl, F', hr, hc⟩
      exact ⟨rfl, F', hr, hc⟩
    · rw [if_neg hf]
      refine (ref_twice_no rb l F i w hn hl.len (by have := hl.len; omega)).mono ?_
      rintro e w' ⟨rfl, rfl⟩
      exact ⟨rfl, F, hn, Chg.refl _ _⟩
theorem net_bend_any (nb : Nat) (l : List G) (F : List Nat) (i k : Int) (x : UInt8) (w : World) (hn : NetRep w nb l F) (hl : Good l) :
    Calls Try.prog 19 #[.pointer (some ⟨nb, 0, none⟩), .int .i64 i, .int .i64 k, .int .u8 x.toNat] w (Stepped (fun w l F => NetRep w nb l F) w F (bendS l i k x)) := by
  unfold bendS
  cases h : atG l i with
  | none =>
    refine (net_bend_none nb l F i k _ w hn hl.len (atG_none h)).mono ?_
    rintro e w' ⟨rfl, rfl⟩
    exact ⟨rfl, F, hn, Chg.refl _ _⟩
  | some g =>
    obtain ⟨h1, h2⟩ := atG_some h
    simp only
    by_cases hf : 0 ≤ k ∧ k < g.b.length ∧ x ≠ 0
    · rw [if_pos hf]
      refine (net_bend nb l F i k x w g hn hl.len h1 h2 (hl.each g (List.mem_of_getElem? h2)).2.1 hf.1 hf.2.1 hf.2.2).mono ?_
      rintro e w' ⟨rfl, F', hr, hc⟩
      exact ⟨rfl, F', hr, hc⟩
    · rw [if_neg hf]
      refine (net_bend_no nb l F i k _ w g hn hl.len h1 h2 (hl.each g (List.mem_of_getElem? h2)).2.1 ?_).mono ?_
      · by_cases hx : x = 0
        · subst hx; exact .inr (.inr (by simp))
        · have : ¬ (0 ≤ k ∧ k < g.b.length) := fun h => hf ⟨h.1, h.2, hx⟩
          omega
      · rintro e w' ⟨rfl, rfl⟩
        exact ⟨rfl, F, hn, Chg.refl _ _⟩
theorem ref_bend_any (rb : Nat) (l : List G) (F : List Nat) (i k : Int) (x : UInt8) (w : World) (hn : RefRep w rb l F) (hl : Good l) :
    Calls Try.prog 27 #[.pointer (some ⟨rb, 0, none⟩), .int .i64 i, .int .i64 k, .int .u8 x.toNat] w (Stepped (fun w l F => RefRep w rb l F) w F (bendS l i k x)) := by
  unfold bendS
  cases h : atG l i with
  | none =>
    refine (ref_bend_none rb l F i k _ w hn hl.len (atG_none h)).mono ?_
    rintro e w' ⟨rfl, rfl⟩
    exact ⟨rfl, F, hn, Chg.refl _ _⟩
  | some g =>
    obtain ⟨h1, h2⟩ := atG_some h
    have hm := hl.each g (List.mem_of_getElem? h2)
    simp only
    by_cases hf : 0 ≤ k ∧ k < g.b.length ∧ x ≠ 0
    · rw [if_pos hf]
      refine (ref_bend rb l F i k x w g hn hl.len h1 h2 hm.1 hm.2.1 hf.1 hf.2.1 hf.2.2).mono ?_
      rintro e w' ⟨rfl, F', hr, hc⟩
      exact ⟨rfl, F', hr, hc⟩
    · rw [if_neg hf]
      refine (ref_bend_no rb l F i k _ w g hn hl.len h1 h2 hm.1 hm.2.1 ?_).mono ?_
      · by_cases hx : x = 0
        · subst hx; exact .inr (.inr (by simp))
        · have : ¬ (0 ≤ k ∧ k < g.b.length) := fun h => hf ⟨h.1, h.2, hx⟩
          omega
      · rintro e w' ⟨rfl, rfl⟩
        exact ⟨rfl, F, hn, Chg.refl _ _⟩
theorem net_send_step (nb : Nat) (l : List G) (F : List Nat) (t : Int) (x : Value) (b : List UInt8) (w : World) (hn : NetRep w nb l F) (ht : 0 ≤ t) (hx : Rd w x 1 b.length (bcells b)) (hb : b.length ≤ 9223372036854775807) (hl : Good l) :
    Calls Try.prog 10 #[.pointer (some ⟨nb, 0, none⟩), .int .u8 t, x] w (Stepped (fun w l F => NetRep w nb l F) w F (sendS l t b)) := by
  have hll := hl.len
  unfold sendS
  by_cases h : t ≤ 1 ∧ 0 < b.length ∧ b.length ≤ 4096 ∧ l.length < 4096
  · rw [if_pos h]
    obtain ⟨ad, c, rfl⟩ := rd_cap hx (by omega)
    refine (net_send nb l F t ad b.length c b w hn ht h.1 hx h.2.1 h.2.2.1 h.2.2.2).mono ?_
    rintro e w' ⟨rfl, F', hr, hc⟩
    exact ⟨rfl, F', hr, hc⟩
  · rw [if_neg h]
    obtain ⟨a, c, rfl⟩ := hx.head
    refine (net_send_no nb l F t a b.length c w hn hb hll (by omega)).mono ?_
    rintro e w' ⟨rfl, rfl⟩
    exact ⟨rfl, F, hn, Chg.refl _ _⟩
theorem ref_send_step (rb : Nat) (l : List G) (F : List Nat) (t : Int) (x : Value) (b : List UInt8) (w : World) (hn : RefRep w rb l F) (ht : 0 ≤ t) (hx : Rd w x 1 b.length (bcells b)) (hb : b.length ≤ 9223372036854775807) (hl : Good l) :
    Calls Try.prog 28 #[.pointer (some ⟨rb, 0, none⟩), .int .u8 t, x] w (Stepped (fun w l F => RefRep w rb l F) w F (sendS l t b)) := by
  have hll := hl.len
  unfold sendS
  by_cases h : t ≤ 1 ∧ 0 < b.length ∧ b.length ≤ 4096 ∧ l.length < 4096
  · rw [if_pos h]
    obtain ⟨ad, c, rfl⟩ := rd_cap hx (by omega)
    refine (ref_send rb l F t ad c b w hn ht h.1 h.2.2.2 hx h.2.1 h.2.2.1).mono ?_
    rintro e w' ⟨rfl, F', hr, hc⟩
    exact ⟨rfl, F', hr, hc⟩
  · rw [if_neg h]
    obtain ⟨a, c, rfl⟩ := hx.head
    refine (ref_send_no rb l F t a b.length c w hn hb hll (by omega)).mono ?_
    rintro e w' ⟨rfl, rfl⟩
    exact ⟨rfl, F, hn, Chg.refl _ _⟩
end Go.Proofs.Ytipobpcafkhknaa
