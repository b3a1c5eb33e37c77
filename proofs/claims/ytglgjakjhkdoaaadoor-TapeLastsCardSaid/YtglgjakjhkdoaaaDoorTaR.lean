/-
  What TapeLasts holds on to.
-/
import Derived.Test.YtglgjakjhkdoaaaDoorTaQ
namespace Go.Proofs.YtglgjakjhkdoaaaDoor
open Go.RowKit Go.Maps
set_option linter.unusedVariables false
set_option linter.unusedSimpArgs false

/-- notes that are held on to: each lies as at WB, their row is no block of F -/
def NtAt (WB w : World) (F : List Nat) (v : Value) (ls : List Bs) : Prop := ∃ (a : Option Addr) (c : Nat) (xs : List Value), v = .slice a ls.length c ∧ ls.length ≤ c ∧ c ≤ 9223372036854775807 ∧ Rd w v 1 ls.length xs ∧ xs.length = ls.length ∧ (∀ (j : Nat) (u : Value) (x : Bs), xs[j]? = some u → ls[j]? = some x → RdB WB u x) ∧ (0 < ls.length → ∀ k, v.ownBlock = some k → k ∉ F)
theorem rd_lt {w : World} {v : Value} {n : Nat} {xs : List Value} (h : Rd w v 1 n xs) (h0 : 0 < n) : ∀ k, v.ownBlock = some k → k < w.heap.size := fun k hk => by
  obtain ⟨b, off, c, rfl, _, hb⟩ := Rd.addr h h0 (by omega)
  simp only [Value.ownBlock, Option.map_some, Option.some.injEq] at hk
  omega
theorem rd_zero {w w' : World} {v : Value} {xs : List Value} (h : Rd w v 1 0 xs) (hx : xs.length = 0) : Rd w' v 1 0 xs := by
  have : xs = [] := List.eq_nil_of_length_eq_zero hx
  subst this
  refine ⟨h.1, h.2.imp id ?_⟩
  rintro ⟨ad, c', h1, _⟩
  exact ⟨ad, c', h1, fun j u hu => by simp at hu⟩
theorem NtAt.chg {WB w w' : World} {F F' : List Nat} {v : Value} {ls : List Bs} (h : NtAt WB w F v ls) (hc : Chg F F' w w') : NtAt WB w' F' v ls := by
  obtain ⟨a, c, xs, h1, h2, h3, h4, h5, h6, h7⟩ := h
  by_cases h0 : 0 < ls.length
  · refine ⟨a, c, xs, h1, h2, h3, Rd.chg h4 hc (h7 h0), h5, h6, fun _ k hk hm => ?_⟩
    rcases hc.fresh k hm with h | h
    · exact h7 h0 k hk h
    · have := rd_lt h4 h0 k hk; omega
  · have e : ls.length = 0 := by omega
    rw [e] at h4 h5
    exact ⟨a, c, xs, h1, h2, h3, by rw [e]; exact rd_zero h4 h5, by rw [e]; exact h5, h6, fun h => absurd h h0⟩
theorem NtAt.low {WB w w' : World} {F : List Nat} {v : Value} {ls : List Bs} (h : NtAt WB w F v ls) (hb : Below w.heap.size w w') : NtAt WB w' F v ls := h.chg (Chg.of_below hb)
theorem NtAt.nil (WB w : World) (F : List Nat) : NtAt WB w F (.slice none 0 0) [] := ⟨none, 0, [], rfl, Nat.le_refl _, by omega, Rd.nil w 1, rfl, fun j u x h => by simp at h, fun h => absurd h (Nat.lt_irrefl 0)⟩
theorem NtAt.arg {WB w : World} {F : List Nat} {v : Value} {ls : List Bs} (h : RdNs WB v ls) (hb : Below WB.heap.size WB w) (hF : ∀ k ∈ F, WB.heap.size ≤ k) : NtAt WB w F v ls := by
  obtain ⟨xs, h1, h2, h3, a, c, e, g1, g2⟩ := h
  exact ⟨a, c, xs, e, g1, g2, h1.low hb, h2, fun j u x hu hx => (h3 j u x hu hx).1, fun h0 k hk hm => by have := rd_lt h1 h0 k hk; have := hF k hm; omega⟩
theorem NtAt.cap {WB w : World} {F : List Nat} {a : Option Addr} {n c : Nat} {ls : List Bs} (h : NtAt WB w F (.slice a n c) ls) : n ≤ c ∧ c ≤ 9223372036854775807 := by
  obtain ⟨a', c', xs, h1, h2, h3, _⟩ := h
  simp only [Value.slice.injEq] at h1
  obtain ⟨rfl, rfl, rfl⟩ := h1
  exact ⟨h2, h3⟩
theorem NtAt.rd {WB w : World} {F : List Nat} {v : Value} {ls : List Bs} (h : NtAt WB w F v ls) (hb : Below WB.heap.size WB w) : RdBs w v ls := by
  obtain ⟨a, c, xs, h1, h2, h3, h4, h5, h6, h7⟩ := h
  exact ⟨xs, h4, h5, fun j u x hu hx => (h6 j u x hu hx).low hb⟩
theorem NtAt.front {WB w : World} {F : List Nat} {a : Option Addr} {n c : Nat} {ls : List Bs} (h : NtAt WB w F (.slice a n c) ls) (hb : Below WB.heap.size WB w) (m : Nat) (hm : m ≤ ls.length) : RdBs w (.slice a m c) (ls.take m) := by
  obtain ⟨a', c', xs, h1, h2, h3, h4, h5, h6, h7⟩ := h
  simp only [Value.slice.injEq] at h1
  obtain ⟨rfl, rfl, rfl⟩ := h1
  have hl : (ls.take m).length = m := by rw [List.length_take]; omega
  refine ⟨xs.take m, ⟨by rw [hl, List.length_take]; omega, ?_⟩, by rw [hl, List.length_take]; omega, fun j u x hu hx => ?_⟩
  · rcases h4.2 with ⟨e, z⟩ | ⟨ad, c2, e, hc⟩
    · simp only [Value.slice.injEq] at e
      obtain ⟨rfl, e2, rfl⟩ := e
      have hm0 : m = 0 := by omega
      subst hm0
      exact .inl ⟨rfl, by simp⟩
    · simp only [Value.slice.injEq] at e
      obtain ⟨rfl, -, rfl⟩ := e
      refine .inr ⟨ad, c, by rw [hl], fun j u hu => ?_⟩
      rw [List.getElem?_take] at hu
      split at hu
      · exact hc j u hu
      · cases hu
  · rw [List.getElem?_take] at hu hx
    split at hu
    · rename_i hj
      rw [if_pos hj] at hx
      exact (h6 j u x hu hx).low hb
    · cases hu
theorem NtAt.one {WB w : World} {F : List Nat} {v : Value} {ls : List Bs} (h : NtAt WB w F v ls) : ∃ xs, Rd w v 1 ls.length xs ∧ xs.length = ls.length ∧ (∀ (j : Nat) (u : Value) (x : Bs), xs[j]? = some u → ls[j]? = some x → RdB WB u x) ∧ ∀ u ∈ xs, u.oneCell' = true := by
  obtain ⟨a, c, xs, h1, h2, h3, h4, h5, h6, h7⟩ := h
  refine ⟨xs, h4, h5, h6, fun u hu => ?_⟩
  obtain ⟨j, hj, rfl⟩ := List.getElem_of_mem hu
  exact (h6 j _ _ (List.getElem?_eq_getElem hj) (List.getElem?_eq_getElem (by omega))).oneCell
theorem NtAt.own {WB w : World} {F : List Nat} {v : Value} {ls : List Bs} {xs : List Value} {B : Nat} (h : w.ownsRow B 23 1 v ls.length xs) (hx : xs.length = ls.length) (hr : ∀ (j : Nat) (u : Value) (x : Bs), xs[j]? = some u → ls[j]? = some x → RdB WB u x) (hF : ∀ k, v.ownBlock = some k → k ∉ F) : NtAt WB w F v ls := by
  obtain ⟨a, c, rfl⟩ := (ownsRow_rd h).head
  obtain ⟨g1, g2⟩ := ownsRow_cap h
  exact ⟨a, c, xs, rfl, g1, g2, ownsRow_rd h, hx, hr, fun _ => hF⟩

/-- what is so between two rounds -/
structure Ls (WB w : World) (sb tb : Nat) (s : FsS) (F : List Nat) (D M : List Bs) (av : Value) (A : List Bs) (wv : Value) (Wl : List Bs) (sure sw : Nat) : Prop where
  own : FsOwn WB w sb s F
  blk : TpBlk w tb sb [106]
  tn : tb ∉ F
  st : St s
  jn : Jn [106] s D M
  all : NtAt WB w F av A
  was : NtAt WB w F wv Wl
  live : s.halted = false → A = D ++ M ∧ sure ≤ D.length
  dead : s.halted = true → Wl = D ++ M ∧ sw ≤ D.length
theorem Ls.go {WB w w' : World} {sb tb : Nat} {s s' : FsS} {F F' : List Nat} {D M D' M' : List Bs} {av av' wv : Value} {A A' Wl : List Bs} {sure sure' sw : Nat} (h : Ls WB w sb tb s F D M av A wv Wl sure sw) (ho : FsOwn WB w' sb s' F') (hc : Chg F F' w w')
    (st' : St s') (hj : Jn [106] s' D' M') (ha : NtAt WB w' F' av' A') (hl : s'.halted = false → A' = D' ++ M' ∧ sure' ≤ D'.length) (hd : s'.halted = true → A = D' ++ M' ∧ sure ≤ D'.length) : Ls WB w' sb tb s' F' D' M' av' A' av A sure' sure :=
  ⟨ho, h.blk.chg hc h.tn, fun hm => by
    rcases hc.fresh _ hm with h9 | h9
    · exact h.tn h9
    · have := h.blk.lt; omega, st', hj, ha, h.all.chg hc, hl, hd⟩
/-- behind the rounds: what was before -/
structure Le (WB w : World) (sb tb : Nat) (s : FsS) (F : List Nat) (D M : List Bs) (av : Value) (A : List Bs) (wv : Value) (sw : Nat) : Prop where
  own : FsOwn WB w sb s F
  jn : Jn [106] s D M
  all : NtAt WB w F av A
  was : NtAt WB w F wv (D ++ M)
  sure : sw ≤ D.length
end Go.Proofs.YtglgjakjhkdoaaaDoor
