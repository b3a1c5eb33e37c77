/-
  The walks of the laws CrcSums, CrcParts, CrcTurns.
-/
import Derived.Test.YtiocakcanabjjaaCrcC
namespace Go.Proofs.Ytiocakcanabjjaa
open Go.RowKit
set_option linter.unusedVariables false
set_option linter.unusedSimpArgs false

/-- a law under way: its Table, all else as it came -/
structure CS (W : World) (tb : Nat) (f : Bool) (w : World) : Prop where
  tab : Tab w tb f
  low : Below W.heap.size W w
  ge : W.heap.size ≤ tb
theorem CS.alloc {W w : World} {tb : Nat} {f : Bool} (h : CS W tb f w) (o : Obj) : CS W tb f (w.alloc o) := ⟨h.tab.alloc o, h.low.alloc h.low.size o, h.ge⟩
theorem CS.to {W w w' : World} {tb : Nat} {f : Bool} (h : CS W tb f w) (hb : Below w.heap.size w w') : CS W tb f w' := ⟨h.tab.low hb, h.low.trans (hb.mono h.low.size), h.ge⟩
theorem CS.sum {W w w' : World} {tb : Nat} {f : Bool} (h : CS W tb f w) (ht : Tab w' tb true) (hc : Chg [tb] [tb] w w') : CS W tb true w' := ⟨ht, h.low.trans (hc.below h.low.size (by simpa using h.ge)), h.ge⟩
theorem CS.rd {W w w' : World} {tb : Nat} {f : Bool} (h : CS W tb f w) (hc : Chg [tb] [tb] w w') {v : Value} {l : List UInt8} (hv : RdB W v l) : RdB w' v l :=
  hv.low (h.low.trans (hc.below h.low.size (by simpa using h.ge)))
theorem CS.rd0 {W w : World} {tb : Nat} {f : Bool} (h : CS W tb f w) {v : Value} {l : List UInt8} (hv : RdB W v l) : RdB w v l := hv.low h.low
theorem CS.lt {W w : World} {tb : Nat} {f : Bool} (h : CS W tb f w) : tb < w.heap.size := h.tab.lt
theorem cs_new {W w w' : World} (hb : Below W.heap.size W w) (ht : Tab w' w.heap.size false) (hl : Below w.heap.size w w') : CS W w.heap.size false w' := ⟨ht, hb.trans (hl.mono hb.size), hb.size⟩

/-- bytes of the law's own, not the Table -/
structure OwnB (w : World) (tb base : Nat) (v : Value) (l : List UInt8) : Prop where
  row : w.ownsRow base 5 1 v l.length (bcells l)
  ge : tb < base
theorem OwnB.rd {w : World} {tb base : Nat} {v : Value} {l : List UInt8} (h : OwnB w tb base v l) : RdB w v l := ownsRow_rd h.row
theorem OwnB.to {w w' : World} {tb base : Nat} {v : Value} {l : List UInt8} (h : OwnB w tb base v l) (hb : Below w.heap.size w w') : OwnB w' tb base v l := ⟨ownsRow_below h.row hb (Nat.le_refl _), h.ge⟩
theorem OwnB.chg {w w' : World} {tb base : Nat} {v : Value} {l : List UInt8} (h : OwnB w tb base v l) (hc : Chg [tb] [tb] w w') : OwnB w' tb base v l :=
  ⟨ownsRow_same h.row fun k hk => hc.block k (h.row.lt k hk).2 (by have := (h.row.lt k hk).1; have := h.ge; simp; omega), h.ge⟩
theorem below_alloc (w : World) (o : Obj) : Below w.heap.size w (w.alloc o) := (Below.refl _ _).alloc (Nat.le_refl _) _

/-- bytes behind bytes of the call's own -/
theorem wpList_copy_rd {P : Program} {w : World} {a : Act} {o : Oper} {Q : Exit → Act → World → Prop} {ops : Array Oper} {rest : List Oper} (hgd : o.guard = none) (s x : Operand) (t : TypeId)
    (ho : o.op = .call { callee := .builtin .append, args := #[s, x], argTypes := #[t, t] })
    (base : Nat) (e : TypeId) (ht : P.underlying t = some (.slice e)) (hinfo : (P.info? e).map (fun i => (i.zero, i.size, i.bytes)) = some (some (.int .u8 0), 1, 1))
    (v : Value) (l0 : List UInt8) (hs : a.eval s = v) (hown : w.ownsRow base e 1 v l0.length (bcells l0))
    (xv : Value) (l : List UInt8) (hx : a.eval x = xv) (hrd : RdB w xv l) (hl : l0.length + l.length ≤ 70368744177664) (hbase : base ≤ w.heap.size)
    (h : ∀ ao co w', w'.ownsRow base e 1 (.slice ao (l0.length + l.length) co) (l0 ++ l).length (bcells (l0 ++ l)) → w.grownBy w' v.ownBlock → ((Value.slice ao (l0.length + l.length) co).ownBlock = v.ownBlock ∨ (Value.slice ao (l0.length + l.length) co).ownBlock = some w.heap.size) → wpList P ops Q rest (a.put o.dst (.slice ao (l0.length + l.length) co)) w') : wpList P ops Q (o :: rest) a w := by
  obtain ⟨i0, hi, hz0, hz1, hz2⟩ := info_parts hinfo
  refine wpList_append_rd hgd s x t ho base e i0 (.int .u8 0) 1 1 ht hi hz0 hz1 hz2 rfl (by decide) v l0.length (bcells l0) hs hown xv l.length (bcells l) hx hrd (bcells_one l) (by unfold maxLen; omega) (by omega) hbase fun v' w' h1 h2 h3 h4 => ?_
  obtain ⟨ao, co, rfl⟩ := (ownsRow_rd h1).head
  exact h ao co w' (by rw [bcells_append, List.length_append]; exact h1) h2 h4
/-- bytes that are copied to new memory -/
theorem wpList_clone_rd {P : Program} {w : World} {a : Act} {o : Oper} {Q : Exit → Act → World → Prop} {ops : Array Oper} {rest : List Oper} (hgd : o.guard = none) (s x : Operand) (t : TypeId)
    (ho : o.op = .call { callee := .builtin .append, args := #[s, x], argTypes := #[t, t] })
    (e : TypeId) (ht : P.underlying t = some (.slice e)) (hinfo : (P.info? e).map (fun i => (i.zero, i.size, i.bytes)) = some (some (.int .u8 0), 1, 1))
    (hs : a.eval s = .slice none 0 0) (xv : Value) (l : List UInt8) (hx : a.eval x = xv) (hrd : RdB w xv l) (hl : l.length ≤ 70368744177664)
    (h : ∀ ao co w', w'.ownsRow w.heap.size e 1 (.slice ao l.length co) l.length (bcells l) → Below w.heap.size w w' → wpList P ops Q rest (a.put o.dst (.slice ao l.length co)) w') : wpList P ops Q (o :: rest) a w := by
  refine wpList_copy_rd hgd s x t ho w.heap.size e ht hinfo (.slice none 0 0) [] hs (World.ownsRow_nil _ _ _ _) xv l hx hrd (by simpa using hl) (Nat.le_refl _) fun ao co w' h1 h2 h3 => ?_
  have e0 : ([] : List UInt8).length + l.length = l.length := by simp
  rw [e0] at h1 ⊢
  exact h ao co w' h1 ((Below.refl _ _).grown h2 (Nat.le_refl _) (by simp [Value.ownBlock]))

set_option maxRecDepth 100000 in
set_option maxHeartbeats 1600000 in
theorem law_CrcTurns (W : World) (vb : Value) (b : List UInt8) (hb : RdB W vb b) (hl : b.length ≤ 9223372036854775807) (x y : UInt8) :
    Calls Try.prog 6 #[vb, .int .u8 x.toNat, .int .u8 y.toNat] W fun e w' => e = .returned (.bool true) ∧ Below W.heap.size W w' := by
  obtain ⟨a, c, rfl⟩ := hb.head
  have HB := hide hb
  clear hb
  by_cases hlen : 2000 < b.length
  · go_enter Try.func6, Try.ntmps6
    go_wp2_with (go_at_call 12; refine (crc_known _).mono ?_; rintro e w' ⟨rfl, hb1⟩; have HBw := hide hb1; clear hb1)
    go_ret
    exact ⟨rfl, HBw.out⟩
  go_enter Try.func6, Try.ntmps6
  go_wp2_with fail
  refine (crc_known _).mono ?_
  rintro e w1 ⟨rfl, hb1⟩
  have HB1 := hide hb1
  clear hb1
  go_wp2_with fail
  refine (crc_new_at w1).mono ?_
  rintro e w2 ⟨rfl, hT, hb2, hlt⟩
  have hcs := cs_new HB1.out hT hb2
  generalize w1.heap.size = tb at hcs hlt
  have HC := hide hcs
  clear hT hb2 hcs HB1 w1
  go_wp2_with fail
  refine (crc_sum_row tb false [_, _] [b, [x]] _ _ ((HC.out.alloc _).alloc _).tab (heap_alloc_eq _ (by simp)) rfl (by simp) (by omega) (fun w' hc i v' l' h1 h2 => ?_) (by simp; omega) (by simp)).mono ?_
  · match i with
    | 0 => simp at h1 h2; subst h1; subst h2; exact ((HC.out.alloc _).alloc _).rd hc HB.out
    | 1 =>
      simp at h1 h2; subst h1; subst h2
      refine rdb_row (l := [x]) (e := 5) (fr := (0, 0)) ?_ (by simp) _
      rw [hc.block w2.heap.size (by simp; omega) (by simp; omega), heap_alloc_old _ _ (by simp), heap_alloc_at]
      rfl
    | i + 2 => simp at h1
  rintro e w3 ⟨rfl, hT3, hc3⟩
  have HC3 := hide (((HC.out.alloc _).alloc _).sum hT3 hc3)
  have hlt3 := HC3.out.lt
  clear hT3 hc3 HC
  simp only [List.flatten_cons, List.flatten_nil, List.append_nil]
  go_wp2_with fail
  refine (crc_sum_row tb true [_, _] [b, [y]] _ _ ((HC3.out.alloc _).alloc _).tab (heap_alloc_eq _ (by simp)) rfl (by simp) (by omega) (fun w' hc i v' l' h1 h2 => ?_) (by simp; omega) (by simp)).mono ?_
  · match i with
    | 0 => simp at h1 h2; subst h1; subst h2; exact ((HC3.out.alloc _).alloc _).rd hc HB.out
    | 1 =>
      simp at h1 h2; subst h1; subst h2
      refine rdb_row (l := [y]) (e := 5) (fr := (0, 0)) ?_ (by simp) _
      rw [hc.block w3.heap.size (by simp; omega) (by simp; omega), heap_alloc_old _ _ (by simp), heap_alloc_at]
      rfl
    | i + 2 => simp at h1
  rintro e w4 ⟨rfl, hT4, hc4⟩
  have HC4 := hide (((HC3.out.alloc _).alloc _).sum hT4 hc4)
  clear hT4 hc4 HC3
  simp only [List.flatten_cons, List.flatten_nil, List.append_nil]
  have hend : (((crcSum (b ++ [x]) : Nat) : Int) == ((crcSum (b ++ [y]) : Nat) : Int)) = ((x.toNat : Int) == (y.toNat : Int)) := by
    rw [Bool.eq_iff_iff]
    simp only [beq_iff_eq, Int.natCast_inj]
    rw [crcSum_turn, UInt8.toNat_inj]
  have HE := hide hend
  clear hend
  go_wp2
  go_ret
  exact ⟨by simp [HE.out], HC4.out.low⟩

set_option maxRecDepth 100000 in
set_option maxHeartbeats 1600000 in
theorem law_CrcSums (W : World) (vb : Value) (b : List UInt8) (hb : RdB W vb b) (hl : b.length ≤ 9223372036854775807) (vm : Value) (m : List UInt8) (hm : RdB W vm m) (hlm : m.length ≤ 9223372036854775807) :
    Calls Try.prog 3 #[vb, vm] W fun e w' => e = .returned (.bool true) ∧ Below W.heap.size W w' := by
  obtain ⟨a, c, rfl⟩ := hb.head
  obtain ⟨a', c', rfl⟩ := hm.head
  have HB := hide hb; have HM := hide hm
  clear hb hm
  by_cases hlen : 2000 < b.length
  · go_enter Try.func3, Try.ntmps3
    go_wp2_with (go_at_call 12; refine (crc_known _).mono ?_; rintro e w' ⟨rfl, hb1⟩; have HBw := hide hb1; clear hb1)
    go_ret
    exact ⟨rfl, HBw.out⟩
  by_cases hlen2 : 2000 < m.length
  · go_enter Try.func3, Try.ntmps3
    go_wp2_with (go_at_call 12; refine (crc_known _).mono ?_; rintro e w' ⟨rfl, hb1⟩; have HBw := hide hb1; clear hb1)
    go_ret
    exact ⟨rfl, HBw.out⟩
  go_enter Try.func3, Try.ntmps3
  go_wp2_with fail
  refine (crc_known _).mono ?_
  rintro e w1 ⟨rfl, hb1⟩
  have HB1 := hide hb1
  clear hb1
  go_wp2_with fail
  refine (crc_new_at w1).mono ?_
  rintro e w2 ⟨rfl, hT, hb2, hlt⟩
  have hcs := cs_new HB1.out hT hb2
  generalize w1.heap.size = tb at hcs hlt
  have HC := hide hcs
  have HBr := hide (hcs.rd0 HB.out)
  clear hT hb2 hcs HB1 w1
  go_wp2_with (at_builtin; refine wpList_clone_rd rfl (.tmp 22) (.tmp 23) 22 rfl 5 Try.underlying22 info_u8' rfl _ b rfl HBr.out (by omega) ?_)
  intro ao co w3 hown hb3
  have hC3 := HC.out.to hb3
  have hO : OwnB w3 tb w2.heap.size (.slice ao b.length co) b := ⟨hown, HC.out.lt⟩
  have HC3 := hide hC3; have HO := hide hO
  have hlt3 := hC3.lt
  clear hown hb3 hC3 hO HBr HC
  go_wp2_with fail
  refine (crc_sum_one tb false _ b _ _ (HC3.out.alloc _).tab (heap_alloc_eq _ (by simp)) (by omega) (fun w' hc => ((HO.out.to (below_alloc _ _)).chg hc).rd) (by omega)).mono ?_
  rintro e w4 ⟨rfl, hT4, hc4⟩
  have HC4 := hide ((HC3.out.alloc _).sum hT4 hc4)
  have HO4 := hide ((HO.out.to (below_alloc _ _)).chg hc4)
  have hlt4 := HC4.out.lt
  clear hT4 hc4 HC3 HO
  go_wp2_with fail
  refine (ref_sum _ b _ (HC4.out.rd0 HB.out) hl).mono ?_
  rintro e w' ⟨rfl, rfl⟩
  go_wp2_with fail
  refine (crc_sum_one tb true _ m _ _ (HC4.out.alloc _).tab (heap_alloc_eq _ (by simp)) (by omega) (fun w' hc => (HC4.out.alloc _).rd hc HM.out) (by omega)).mono ?_
  rintro e w5 ⟨rfl, hT5, hc5⟩
  have HC5 := hide ((HC4.out.alloc _).sum hT5 hc5)
  have HO5 := hide ((HO4.out.to (below_alloc _ _)).chg hc5)
  clear hT5 hc5 HC4 HO4
  go_wp2_with fail
  refine (ref_sum _ m _ (HC5.out.rd0 HM.out) hlm).mono ?_
  rintro e w' ⟨rfl, rfl⟩
  go_wp2_with fail
  refine (crc_made_tab tb _ _ HC5.out.tab).mono ?_
  rintro e w' ⟨rfl, rfl⟩
  simp only [if_true]
  have v1 := convert_rd b _ _ HO5.out.rd
  have v2 := convert_rd b _ _ (HC5.out.rd0 HB.out)
  go_wp2
  go_ret
  exact ⟨by simp, HC5.out.low⟩
end Go.Proofs.Ytiocakcanabjjaa
