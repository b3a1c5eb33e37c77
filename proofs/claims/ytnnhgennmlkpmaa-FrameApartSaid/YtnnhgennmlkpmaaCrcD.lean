/-
  A Table under way; bytes copied behind bytes.
-/
import Derived.Test.YtnnhgennmlkpmaaCrcC
namespace Go.Proofs.Ytnnhgennmlkpmaa
open Go.RowKit
set_option linter.unusedVariables false
set_option linter.unusedSimpArgs false

/-- a law under way: its Table, all else as it came -/
structure CS (W : World) (tb : Nat) (f : Bool) (w : World) : Prop where
  tab : Tab w tb f
  low : Below W.heap.size W w
  ge : W.heap.size ≤ tb
theorem CS.alloc {W w : World} {tb : Nat} {f : Bool} (h : CS W tb f w) (o : Obj) : CS W tb f (w.alloc o) := ⟨h.tab.alloc o, h.low.alloc h.low.size o, h.ge⟩
theorem CS.to {W w w' : World} {tb : Nat} {f : Bool} (h : CS W tb f w) (hb : Below w.heap.size w w') : CS W tb f w' := ⟨h.tab.low hb, h.low.trans (hb.mono h.low.size), h.ge⟩
theorem CS.sum {W w w' : World} {tb : Nat} {f : Bool} (h : CS W tb f w) (ht : Tab w' tb true) (hc : Chg [tb] [tb] w w') : CS W tb true w' := ⟨ht, h.low.trans (hc.below h.low.size (by simpa using h.ge)), h.ge⟩
theorem CS.rd {W w w' : World} {tb : Nat} {f : Bool} (h : CS W tb f w) (hc : Chg [tb] [tb] w w') {v : Value} {l : List UInt8} (hv : RdB W v l) : RdB w' v l :=
  hv.low (h.low.trans (hc.below h.low.size (by simpa using h.ge)))
theorem CS.rd0 {W w : World} {tb : Nat} {f : Bool} (h : CS W tb f w) {v : Value} {l : List UInt8} (hv : RdB W v l) : RdB w v l := hv.low h.low
theorem CS.lt {W w : World} {tb : Nat} {f : Bool} (h : CS W tb f w) : tb < w.heap.size := h.tab.lt
theorem cs_new {W w w' : World} (hb : Below W.heap.size W w) (ht : Tab w' w.heap.size false) (hl : Below w.heap.size w w') : CS W w.heap.size false w' := ⟨ht, hb.trans (hl.mono hb.size), hb.size⟩

/-- bytes of the law's own, not the Table -/
structure OwnB (w : World) (tb base : Nat) (v : Value) (l : List UInt8) : Prop where
  row : w.ownsRow base 5 1 v l.length (bcells l)
  ge : tb < base
theorem OwnB.rd {w : World} {tb base : Nat} {v : Value} {l : List UInt8} (h : OwnB w tb base v l) : RdB w v l := ownsRow_rd h.row
theorem OwnB.to {w w' : World} {tb base : Nat} {v : Value} {l : List UInt8} (h : OwnB w tb base v l) (hb : Below w.heap.size w w') : OwnB w' tb base v l := ⟨ownsRow_below h.row hb (Nat.le_refl _), h.ge⟩
theorem OwnB.chg {w w' : World} {tb base : Nat} {v : Value} {l : List UInt8} (h : OwnB w tb base v l) (hc : Chg [tb] [tb] w w') : OwnB w' tb base v l :=
  ⟨ownsRow_same h.row fun k hk => hc.block k (h.row.lt k hk).2 (by have := (h.row.lt k hk).1; have := h.ge; simp; omega), h.ge⟩
theorem below_alloc (w : World) (o : Obj) : Below w.heap.size w (w.alloc o) := (Below.refl _ _).alloc (Nat.le_refl _) _

/-- bytes behind bytes of the call's own -/
theorem wpList_copy_rd {P : Program} {w : World} {a : Act} {o : Oper} {Q : Exit → Act → World → Prop} {ops : Array Oper} {rest : List Oper} (hgd : o.guard = none) (s x : Operand) (t : TypeId)
    (ho : o.op = .call { callee := .builtin .append, args := #[s, x], argTypes := #[t, t] })
    (base : Nat) (e : TypeId) (ht : P.underlying t = some (.slice e)) (hinfo : (P.info? e).map (fun i => (i.zero, i.size, i.bytes)) = some (some (.int .u8 0), 1, 1))
    (v : Value) (l0 : List UInt8) (hs : a.eval s = v) (hown : w.ownsRow base e 1 v l0.length (bcells l0))
    (xv : Value) (l : List UInt8) (hx : a.eval x = xv) (hrd : RdB w xv l) (hl : l0.length + l.length ≤ 70368744177664) (hbase : base ≤ w.heap.size)
    (h : ∀ ao co w', w'.ownsRow base e 1 (.slice ao (l0.length + l.length) co) (l0 ++ l).length (bcells (l0 ++ l)) → w.grownBy w' v.ownBlock → ((Value.slice ao (l0.length + l.length) co).ownBlock = v.ownBlock ∨ (Value.slice ao (l0.length + l.length) co).ownBlock = some w.heap.size) → wpList P ops Q rest (a.put o.dst (.slice ao (l0.length + l.length) co)) w') : wpList P ops Q (o :: rest) a w := by
  obtain ⟨i0, hi, hz0, hz1, hz2⟩ := info_parts hinfo
  refine wpList_append_rd hgd s x t ho base e i0 (.int .u8 0) 1 1 ht hi hz0 hz1 hz2 rfl (by decide) v l0.length (bcells l0) hs hown xv l.length (bcells l) hx hrd (bcells_one l) (by unfold maxLen; omega) (by omega) hbase fun v' w' h1 h2 h3 h4 => ?_
  obtain ⟨ao, co, rfl⟩ := (ownsRow_rd h1).head
  exact h ao co w' (by rw [bcells_append, List.length_append]; exact h1) h2 h4
/-- bytes that are copied to new memory, one operation alone -/
theorem wp_clone_rd {P : Program} {w : World} {a : Act} {o : Oper} {K : Act → World → Prop} {Q : Exit → Act → World → Prop} (s x : Operand) (t : TypeId)
    (ho : o.op = .call { callee := .builtin .append, args := #[s, x], argTypes := #[t, t] })
    (e : TypeId) (ht : P.underlying t = some (.slice e)) (hinfo : (P.info? e).map (fun i => (i.zero, i.size, i.bytes)) = some (some (.int .u8 0), 1, 1))
    (hs : a.eval s = .slice none 0 0) (xv : Value) (l : List UInt8) (m : Nat) (hm : m = l.length) (hx : a.eval x = xv) (hrd : RdB w xv l) (hl : m ≤ 70368744177664)
    (h : ∀ ao co w', w'.ownsRow w.heap.size e 1 (.slice ao m co) m (bcells l) → Below w.heap.size w w' → K (a.put o.dst (.slice ao m co)) w') : o.wp P a w K Q := by
  subst hm
  obtain ⟨i0, hi, hz0, hz1, hz2⟩ := info_parts hinfo
  refine wp_append_rd s x t ho w.heap.size e i0 (.int .u8 0) 1 1 ht hi hz0 hz1 hz2 rfl (by decide) (.slice none 0 0) 0 [] hs (World.ownsRow_nil _ _ _ _) xv l.length (bcells l) hx hrd (bcells_one l) (by unfold maxLen; omega) (by omega) (Nat.le_refl _) fun v' w' h1 h2 h3 h4 => ?_
  obtain ⟨ao, co, rfl⟩ := (ownsRow_rd h1).head
  have e0 : 0 + l.length = l.length := by omega
  rw [e0] at h1 ⊢
  exact h ao co w' h1 ((Below.refl _ _).grown h2 (Nat.le_refl _) (by simp [Value.ownBlock]))
/-- bytes that are copied to new memory -/
theorem wpList_clone_rd {P : Program} {w : World} {a : Act} {o : Oper} {Q : Exit → Act → World → Prop} {ops : Array Oper} {rest : List Oper} (hgd : o.guard = none) (s x : Operand) (t : TypeId)
    (ho : o.op = .call { callee := .builtin .append, args := #[s, x], argTypes := #[t, t] })
    (e : TypeId) (ht : P.underlying t = some (.slice e)) (hinfo : (P.info? e).map (fun i => (i.zero, i.size, i.bytes)) = some (some (.int .u8 0), 1, 1))
    (hs : a.eval s = .slice none 0 0) (xv : Value) (l : List UInt8) (hx : a.eval x = xv) (hrd : RdB w xv l) (hl : l.length ≤ 70368744177664)
    (h : ∀ ao co w', w'.ownsRow w.heap.size e 1 (.slice ao l.length co) l.length (bcells l) → Below w.heap.size w w' → wpList P ops Q rest (a.put o.dst (.slice ao l.length co)) w') : wpList P ops Q (o :: rest) a w := by
  refine wpList_copy_rd hgd s x t ho w.heap.size e ht hinfo (.slice none 0 0) [] hs (World.ownsRow_nil _ _ _ _) xv l hx hrd (by simpa using hl) (Nat.le_refl _) fun ao co w' h1 h2 h3 => ?_
  have e0 : ([] : List UInt8).length + l.length = l.length := by simp
  rw [e0] at h1 ⊢
  exact h ao co w' h1 ((Below.refl _ _).grown h2 (Nat.le_refl _) (by simp [Value.ownBlock]))

end Go.Proofs.Ytnnhgennmlkpmaa
