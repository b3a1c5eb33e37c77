/-
Bytes of the call's own: laid behind one another, copied; cuts of a slice; bytes that came in, with their capacity.
append of noughts (append(b, make([]byte, n)...)) onto a slice of the call's own.
-/
import Derived.Test.YtglgjakjhkdoaaaGreatDoorZItemsLaw
import Derived.Test.YtglgjakjhkdoaaaGreatDoorZRdStMStA
import Derived.Lib.AppendZerosOnto
namespace Go.Proofs.YtglgjakjhkdoaaaGreatDoor
open Go.RowKit Go.ChangeShapes Go.WideShapes Go.ChangeAt Go.Deep
set_option linter.unusedVariables false
set_option linter.unusedSimpArgs false

theorem heap_alloc_at (w : World) (o : Obj) : (w.alloc o).heap[w.heap.size]? = some o := Array.getElem?_push_size
theorem below_alloc (w : World) (o : Obj) : Below w.heap.size w (w.alloc o) := (Below.refl _ _).alloc (Nat.le_refl _) _

theorem wpList_copy_rd {P : Program} {w : World} {a : Act} {o : Oper} {Q : Exit → Act → World → Prop} {ops : Array Oper} {rest : List Oper} (hgd : o.guard = none) (s x : Operand) (t : TypeId)
    (ho : o.op = .call { callee := .builtin .append, args := #[s, x], argTypes := #[t, t] })
    (base : Nat) (e : TypeId) (ht : P.underlying t = some (.slice e)) (hinfo : (P.info? e).map (fun i => (i.zero, i.size, i.bytes)) = some (some (.int .u8 0), 1, 1))
    (v : Value) (l0 : List UInt8) (hs : a.eval s = v) (hown : w.ownsRow base e 1 v l0.length (bcells l0))
    (xv : Value) (l : List UInt8) (hx : a.eval x = xv) (hrd : RdB w xv l) (hl : l0.length + l.length ≤ 70368744177664) (hbase : base ≤ w.heap.size)
    (h : ∀ ao co w', w'.ownsRow base e 1 (.slice ao (l0.length + l.length) co) (l0 ++ l).length (bcells (l0 ++ l)) → w.grownBy w' v.ownBlock → ((Value.slice ao (l0.length + l.length) co).ownBlock = v.ownBlock ∨ (Value.slice ao (l0.length + l.length) co).ownBlock = some w.heap.size) → wpList P ops Q rest (a.put o.dst (.slice ao (l0.length + l.length) co)) w') : wpList P ops Q (o :: rest) a w := by
  obtain ⟨i0, hi, hz0, hz1, hz2⟩ := info_parts hinfo
  refine wpList_append_rd hgd s x t ho base e i0 (.int .u8 0) 1 1 ht hi hz0 hz1 hz2 rfl (by decide) v l0.length (bcells l0) hs hown xv l.length (bcells l) hx hrd (bcells_one l) (by unfold maxLen; omega) (by omega) hbase fun v' w' h1 h2 h3 h4 => ?_
  obtain ⟨ao, co, rfl⟩ := (ownsRow_rd h1).head
  exact h ao co w' (by rw [bcells_append, List.length_append]; exact h1) h2 h4
theorem wp_clone_rd {P : Program} {w : World} {a : Act} {o : Oper} {K : Act → World → Prop} {Q : Exit → Act → World → Prop} (s x : Operand) (t : TypeId)
    (ho : o.op = .call { callee := .builtin .append, args := #[s, x], argTypes := #[t, t] })
    (e : TypeId) (ht : P.underlying t = some (.slice e)) (hinfo : (P.info? e).map (fun i => (i.zero, i.size, i.bytes)) = some (some (.int .u8 0), 1, 1))
    (hs : a.eval s = .slice none 0 0) (xv : Value) (l : List UInt8) (m : Nat) (hm : m = l.length) (hx : a.eval x = xv) (hrd : RdB w xv l) (hl : m ≤ 70368744177664)
    (h : ∀ ao co w', w'.ownsRow w.heap.size e 1 (.slice ao m co) m (bcells l) → Below w.heap.size w w' → K (a.put o.dst (.slice ao m co)) w') : o.wp P a w K Q := by
  subst hm
  obtain ⟨i0, hi, hz0, hz1, hz2⟩ := info_parts hinfo
  refine wp_append_rd s x t ho w.heap.size e i0 (.int .u8 0) 1 1 ht hi hz0 hz1 hz2 rfl (by decide) (.slice none 0 0) 0 [] hs (World.ownsRow_nil _ _ _ _) xv l.length (bcells l) hx hrd (bcells_one l) (by unfold maxLen; omega) (by omega) (Nat.le_refl _) fun v' w' h1 h2 h3 h4 => ?_
  obtain ⟨ao, co, rfl⟩ := (ownsRow_rd h1).head
  have e0 : 0 + l.length = l.length := by omega
  rw [e0] at h1 ⊢
  exact h ao co w' h1 ((Below.refl _ _).grown h2 (Nat.le_refl _) (by simp [Value.ownBlock]))
theorem wpList_clone_rd {P : Program} {w : World} {a : Act} {o : Oper} {Q : Exit → Act → World → Prop} {ops : Array Oper} {rest : List Oper} (hgd : o.guard = none) (s x : Operand) (t : TypeId)
    (ho : o.op = .call { callee := .builtin .append, args := #[s, x], argTypes := #[t, t] })
    (e : TypeId) (ht : P.underlying t = some (.slice e)) (hinfo : (P.info? e).map (fun i => (i.zero, i.size, i.bytes)) = some (some (.int .u8 0), 1, 1))
    (hs : a.eval s = .slice none 0 0) (xv : Value) (l : List UInt8) (hx : a.eval x = xv) (hrd : RdB w xv l) (hl : l.length ≤ 70368744177664)
    (h : ∀ ao co w', w'.ownsRow w.heap.size e 1 (.slice ao l.length co) l.length (bcells l) → Below w.heap.size w w' → wpList P ops Q rest (a.put o.dst (.slice ao l.length co)) w') : wpList P ops Q (o :: rest) a w := by
  refine wpList_copy_rd hgd s x t ho w.heap.size e ht hinfo (.slice none 0 0) [] hs (World.ownsRow_nil _ _ _ _) xv l hx hrd (by simpa using hl) (Nat.le_refl _) fun ao co w' h1 h2 h3 => ?_
  have e0 : ([] : List UInt8).length + l.length = l.length := by simp
  rw [e0] at h1 ⊢
  exact h ao co w' h1 ((Below.refl _ _).grown h2 (Nat.le_refl _) (by simp [Value.ownBlock]))

def RowIn (W : World) (B : Nat) (e : TypeId) (v : Value) (l : List UInt8) (w : World) : Prop := w.ownsRow B e 1 v l.length (bcells l) ∧ Below B W w ∧ B ≤ w.heap.size
abbrev RowIs (W : World) (B : Nat) (v : Value) (l : List UInt8) (w : World) : Prop := RowIn W B 5 v l w

theorem rowIs_made (W : World) (B : Nat) (l : List UInt8) (cs : Array Value) (hB : B = W.heap.size) (hcs : cs = (bcells l).toArray) (hl : l.length ≤ 1000000) : RowIs W B (.slice (some ⟨B, 0, none⟩) l.length l.length) l (W.alloc (.cells cs 5)) := by
  subst hB; subst hcs
  refine ⟨⟨by simp [bcells], .inr ⟨W.heap.size, l.length, (bcells l).toArray, rfl, Nat.le_refl _, heap_alloc_at _ _, Nat.le_refl _, by unfold maxLen; omega, by simp [bcells], by rw [Nat.mul_one, List.take_of_length_le (by simp [bcells])]⟩⟩, below_alloc _ _, by simp⟩
theorem RowIn.lt {W w : World} {B : Nat} {v : Value} {l : List UInt8} (h : RowIs W B v l w) : B ≤ w.heap.size := h.2.2
theorem RowIn.to {W w w' : World} {B : Nat} {v : Value} {l : List UInt8} (h : RowIs W B v l w) (hb : Below w.heap.size w w') : RowIs W B v l w' :=
  ⟨ownsRow_below h.1 hb (Nat.le_refl _), h.2.1.trans (hb.mono h.2.2), Nat.le_trans h.2.2 hb.size⟩
theorem RowIn.head {W w : World} {B : Nat} {v : Value} {l : List UInt8} (h : RowIs W B v l w) : ∃ a c, v = .slice a l.length c := (ownsRow_rd h.1).head

theorem wpList_copy_own {P : Program} {w : World} {a : Act} {o : Oper} {Q : Exit → Act → World → Prop} {ops : Array Oper} {rest : List Oper} (hgd : o.guard = none) (s x : Operand) (t : TypeId)
    (ho : o.op = .call { callee := .builtin .append, args := #[s, x], argTypes := #[t, t] })
    (W : World) (base : Nat) (e : TypeId) (ht : P.underlying t = some (.slice e)) (hinfo : (P.info? e).map (fun i => (i.zero, i.size, i.bytes)) = some (some (.int .u8 0), 1, 1))
    (v : Value) (l0 : List UInt8) (hs : a.eval s = v) (hown : RowIn W base e v l0 w)
    (xv : Value) (l : List UInt8) (hx : a.eval x = xv) (hrd : RdB w xv l) (hl : l0.length + l.length ≤ 70368744177664)
    (h : ∀ ao co w', RowIn W base e (.slice ao (l0 ++ l).length co) (l0 ++ l) w' → Below base w w' → wpList P ops Q rest (a.put o.dst (.slice ao (l0 ++ l).length co)) w') : wpList P ops Q (o :: rest) a w := by
  refine wpList_copy_rd hgd s x t ho base e ht hinfo v l0 hs hown.1 xv l hx hrd hl hown.2.2 fun ao co w' h1 h2 h3 => ?_
  have e0 : l0.length + l.length = (l0 ++ l).length := by simp
  rw [e0] at h1 ⊢
  have hb : Below base w w' := (Below.refl base w).grown h2 hown.2.2 fun k hk => (hown.1.lt k hk).1
  exact h ao co w' ⟨h1, hown.2.1.trans hb, Nat.le_trans hown.2.2 hb.size⟩ hb

theorem open_bytesC {H : Type} {enc : TypeId × Value → H} {W : World} {fuel : Nat} {cs : List Value} {x : DataW H × List MemPlace} (h : DataW.trod enc Tryz.prog W 0 (fun _ => true) true fuel 22 cs = some x) :
    ∃ (a : Option Addr) (c : Nat) (b : List UInt8), cs = [.slice a b.length c] ∧ RdB W (.slice a b.length c) b ∧ b.length ≤ c ∧ c ≤ 9223372036854775807 := by
  obtain ⟨v, b, hcs, hr, hl⟩ := open_bytes h
  obtain ⟨a, c, rfl⟩ := Rd.head hr
  refine ⟨a, c, b, hcs, hr, ?_⟩
  rcases open_slice Tryz.underlying22 h with ⟨h0, _⟩ | ⟨a', len, cap, m, n, D, Pl, h0, _, h1, h2, _⟩
  · rw [hcs] at h0
    simp only [List.cons.injEq, Value.slice.injEq, and_true] at h0
    omega
  · rw [hcs] at h0
    simp only [List.cons.injEq, Value.slice.injEq, and_true] at h0
    unfold maxLen at h2
    omega

theorem ownsRow_cap {w : World} {base e size n c : Nat} {a : Option Addr} {xs : List Value} (h : w.ownsRow base e size (.slice a n c) n xs) : n ≤ c ∧ c ≤ 9223372036854775807 := by
  rcases h.2 with ⟨h1, h2⟩ | ⟨g, cap, cur, h1, h2, h3, h4, h5, h6, h7⟩
  · simp only [Value.slice.injEq] at h1
    omega
  · simp only [Value.slice.injEq] at h1
    obtain ⟨_, _, rfl⟩ := h1
    unfold maxLen at h5
    exact ⟨h4, h5⟩
theorem RdB.keep {w w' : World} {x : Value} {l : List UInt8} (h : RdB w x l) (hk : ∀ b, x.ownBlock = some b → w'.heap[b]? = w.heap[b]?) : RdB w' x l := Rd.kept h fun b hb _ => hk b hb
theorem add_add' (a : Addr) (j k : Nat) : (a.add j).add k = a.add (j + k) := by
  unfold Addr.add
  by_cases hj : j = 0
  · subst hj; simp
  · by_cases hk : k = 0
    · subst hk; simp
    · simp [hj, hk]; omega
theorem RdB.from {w : World} {ad : Addr} {c n : Nat} {l : List UInt8} (h : RdB w (.slice (some ad) n c) l) (hn : n = l.length) (k : Nat) (c' m : Nat) (hm : m = (l.drop k).length) (hk : k ≤ l.length) : RdB w (.slice (some (ad.add k)) m c') (l.drop k) := by
  subst hn
  obtain ⟨h1, ⟨he, hz⟩ | ⟨ad2, c2, he, hc⟩⟩ := h
  · cases he
  · simp only [Value.slice.injEq, Option.some.injEq, true_and] at he
    obtain ⟨rfl, rfl⟩ := he
    refine ⟨by simp [bcells], .inr ⟨ad.add k, c', by rw [hm], fun j u hu => ?_⟩⟩
    rw [add_add']
    refine hc (k + j) u ?_
    simpa [bcells] using hu
theorem RdB.upto {w : World} {ad : Addr} {c n : Nat} {l : List UInt8} (h : RdB w (.slice (some ad) n c) l) (hn : n = l.length) (k : Nat) (c' m : Nat) (hm : m = (l.take k).length) : RdB w (.slice (some ad) m c') (l.take k) := by
  subst hn
  obtain ⟨h1, ⟨he, hz⟩ | ⟨ad2, c2, he, hc⟩⟩ := h
  · cases he
  · simp only [Value.slice.injEq, Option.some.injEq, true_and] at he
    obtain ⟨rfl, rfl⟩ := he
    refine ⟨by simp [bcells], .inr ⟨ad, c', by rw [hm], fun j u hu => hc j u ?_⟩⟩
    simp only [bcells, List.map_take, List.getElem?_take] at hu ⊢
    split at hu
    · exact hu
    · cases hu
theorem RdB.rest {w : World} {ad : Addr} {c n : Nat} {l : List UInt8} (h : RdB w (.slice (some ad) n c) l) (hn : n = l.length) (hc : n ≤ c) (k : Nat) (c' m : Nat) (hm : m = (l.drop k).length) :
    RdB w (.slice (if c = k then some ad else some ⟨ad.block, ad.off + k, none⟩) m c') (l.drop k) := by
  by_cases hk : k < l.length
  · rw [if_neg (by omega)]
    obtain ⟨b, off, c2, he, _⟩ := RdB.at (l := l) (k := 0) (by rw [hn] at h; exact h) (by omega)
    simp only [Value.slice.injEq, Option.some.injEq] at he
    obtain ⟨he, _⟩ := he
    subst he
    have h2 := h.from hn k c' m hm (by omega)
    have e : (⟨b, off, none⟩ : Addr).add k = ⟨b, off + k, none⟩ := by unfold Addr.add; split <;> simp_all
    rw [e] at h2
    exact h2
  · have e : l.drop k = [] := List.drop_of_length_le (by omega)
    rw [e] at hm ⊢
    subst hm
    have : ∃ A, (if c = k then some ad else some ⟨ad.block, ad.off + k, none⟩) = some A := by split <;> exact ⟨_, rfl⟩
    obtain ⟨A, hA⟩ := this
    rw [hA]
    exact ⟨rfl, .inr ⟨A, c', rfl, fun j u hu => by simp [bcells] at hu⟩⟩
theorem ownBlock_rest (ad : Addr) (c k m c' : Nat) : (Value.slice (if c = k then some ad else some ⟨ad.block, ad.off + k, none⟩) m c').ownBlock = some ad.block := by
  split <;> rfl

theorem heapCell {w : World} {b : Nat} {v : Value} {t : TypeId} (h : w.heap[b]? = some (.cells #[v] t)) : w.cell? ⟨b, 0, none⟩ = some v ∧ w.frozen? ⟨b, 0, none⟩ = false ∧ b < w.heap.size := by
  refine ⟨by simp [World.cell?, h], by simp [World.frozen?, h], (Array.getElem?_eq_some_iff.1 h).1⟩
theorem okWide_low {P : Program} {W : World} {r : Reach} {base : Nat} {t e : TypeId} {a : Option Addr} {n c : Nat} (ht : P.underlying t = some (.slice e)) (h : Value.okWide P W r base t (.slice a n c)) : ∀ k, (Value.slice a n c).ownBlock = some k → k < W.heap.size := by
  intro k hk
  cases a with
  | none => cases hk
  | some ad =>
    simp only [Value.okWide, ht, Cell.okWide, Cell.ok, World.has] at h
    obtain ⟨_, _, _, _, row, cells, hs, _⟩ := h
    obtain rfl : ad.block = k := by simpa [Value.ownBlock] using hk
    unfold World.shape? at hs
    by_cases hl : ad.block < W.heap.size
    · exact hl
    · rw [Array.getElem?_eq_none (by omega)] at hs
      simp at hs

end Go.Proofs.YtglgjakjhkdoaaaGreatDoor

namespace Go.Proofs.YtglgjakjhkdoaaaGreatDoor
open Go.RowKit
set_option linter.unusedVariables false
set_option linter.unusedSimpArgs false

theorem zeroCells_u8 (m : Nat) : (Builtin.zeroCells (Value.int .u8 0).cells m) = (List.replicate m (Value.int .u8 0)).toArray := by
  apply Array.ext
  · simp [Builtin.zeroCells, Value.cells]
  · intro i h1 h2
    simp [Builtin.zeroCells, Value.cells, Nat.mod_one]
theorem run_append_zeros_own {P : Program} (w : World) (base : Nat) (t tn ty e : TypeId) (i : TypeInfo) (ht : P.underlying t = some (.slice e)) (htn : P.underlying tn = some (.int .i64)) (hi : P.info? e = some i) (hz : i.zero = some (.int .u8 0))
    (hsize : i.size = 1) (hby : i.bytes = 1) (v : Value) (n : Nat) (xs : List Value) (hown : w.ownsRow base e 1 v n xs) (m : Nat) (hl : n + m ≤ 70368744177664) (hbase : base ≤ w.heap.size) :
    ∃ v' w', (Builtin.append_ #[t, tn] ty #[v, .int .i64 m]).run P w = .ok v' w' ∧ w'.ownsRow base e 1 v' (n + m) (xs ++ List.replicate m (.int .u8 0)) ∧ w.grownBy w' v.ownBlock ∧
      (v'.ownBlock = v.ownBlock ∨ v'.ownBlock = some w.heap.size) := by
  have hw : IntKind.i64.wrap (m : Int) = m := by rw [IntKind.wrap_i64]; omega
  have hw0 : IntKind.i64.wrap 0 = 0 := by rw [IntKind.wrap_i64]; omega
  have hxs := hown.1
  have hneg : ¬ ((m : Int) < 0) := by omega
  have h48i : ¬ (281474976710656 < (m : Int)) := by omega
  have hmax : maxLen = 9223372036854775807 := rfl
  by_cases hm : m = 0
  · subst hm
    have e0 : (Builtin.append_ #[t, tn] ty #[v, .int .i64 (0 : Nat)]).run P w = .ok v w := by
      rcases hown.2 with ⟨rfl, rfl⟩ | ⟨g, cap, cur, rfl, hbg, hgg, hnc, hcm, hcs, htake⟩
      · simp [Builtin.append_, run_underlying ht, run_underlying htn, sizeOf, typeInfo, hi, asInt, asIntOf, hw, hw0]
      · simp [Builtin.append_, run_underlying ht, run_underlying htn, sizeOf, typeInfo, hi, asInt, asIntOf, hw, hw0, hnc, storeCells]
    exact ⟨v, w, e0, by simpa using hown, ⟨rfl, rfl, rfl, Nat.le_refl _, fun _ _ _ => rfl⟩, .inl rfl⟩
  · have grown : ∀ (old : Nat), old < n + m → ∀ (row : Option Nat),
        (w.drew.alloc (.cells (xs.toArray ++ Builtin.zeroCells (Value.int .u8 0).cells m ++ Builtin.zeroCells (Value.int .u8 0).cells (grownCap w (n + m) old e - (n + m))) e)).ownsRow base e 1
          (.slice (some ⟨w.heap.size, 0, none⟩) (n + m) (grownCap w (n + m) old e)) (n + m) (xs ++ List.replicate m (.int .u8 0)) ∧
        w.grownBy (w.drew.alloc (.cells (xs.toArray ++ Builtin.zeroCells (Value.int .u8 0).cells m ++ Builtin.zeroCells (Value.int .u8 0).cells (grownCap w (n + m) old e - (n + m))) e)) row := by
      intro old ho row
      have hge := grownCap_ge w (n + m) old e
      have hcm : grownCap w (n + m) old e ≤ maxLen := grownCap_le_maxLen w (n + m) old e (by omega)
      refine ⟨⟨by simp [hxs], .inr ⟨w.heap.size, _, _, rfl, hbase, heap_alloc_new w.drew _, hge, hcm, ?_, ?_⟩⟩, ⟨rfl, rfl, rfl, by simp, fun k hk _ => heap_alloc_old w.drew _ hk⟩⟩
      · simp [zeroCells_u8, hxs]; omega
      · have hlen : (xs ++ List.replicate m (Value.int .u8 0)).length = (n + m) * 1 := by simp [hxs]
        simp only [Array.toList_append, zeroCells_u8, List.toList_toArray]
        rw [← hlen]
        exact List.take_left
    rcases hown.2 with ⟨rfl, rfl⟩ | ⟨g, cap, cur, rfl, hbg, hgg, hnc, hcm, hcs, htake⟩
    · have hx : xs = [] := List.eq_nil_of_length_eq_zero (by simpa using hown.1)
      subst hx
      have hr := Lib.run_append_nil_zeros (P := P) w t tn ty e i (.int .u8 0) .i64 .i64 ht htn hi hz m (by omega) (by omega) (by omega) (by rw [hby]; omega)
      have hgr := grown 0 (by omega) (Value.ownBlock (.slice none 0 0))
      simp only [Nat.zero_add, List.nil_append, Array.empty_append, List.toArray, Array.append_assoc] at hgr ⊢
      exact ⟨_, _, hr, hgr.1, hgr.2, .inr rfl⟩
    · by_cases hroom : n + m ≤ cap
      · have hst := run_storeCells_at P g n e (List.replicate m (Value.int .u8 0)) 0 cur w hgg (by simp; omega) (by intro u hu; rw [List.eq_of_mem_replicate hu]; rfl)
        simp only [Nat.add_zero] at hst
        have hr : (Builtin.append_ #[t, tn] ty #[.slice (some ⟨g, 0, none⟩) n cap, .int .i64 m]).run P w = .ok (.slice (some ⟨g, 0, none⟩) (n + m) cap) (w.setRow g (cur.toList.take n ++ List.replicate m (Value.int .u8 0) ++ cur.toList.drop (n + (List.replicate m (Value.int .u8 0)).length)).toArray) := by
          have hz8 := zeroCells_u8 m
          simp [Builtin.append_, run_underlying ht, run_underlying htn, sizeOf, typeInfo, zeroValue, hi, hz, hsize, hby, asInt, asIntOf, hw, hneg, hm, h48i, hroom, Addr.add_lit, hz8]
          simp at hst
          rw [hst]
          rfl
        refine ⟨_, _, hr, ⟨by simp [hxs], .inr ⟨g, cap, _, rfl, hbg, setRow_heap w g cur _ e _ hgg, hroom, hcm, ?_, ?_⟩⟩, ⟨rfl, rfl, rfl, by simp, fun k _ hk => setRow_other w g k _ (fun e => hk (by simp [Value.ownBlock, e]))⟩, .inl rfl⟩
        · simp only [List.size_toArray, List.length_append, List.length_take, List.length_drop, Array.length_toList, List.length_replicate]
          omega
        · have h2 : cur.toList.take n = xs := by simpa using htake
          rw [h2]
          have hlen : (xs ++ List.replicate m (Value.int .u8 0)).length = (n + m) * 1 := by simp [hxs]
          rw [← hlen]
          exact List.take_left
      · have hold := run_firstCells_some (P := P) w.drew i.size n ⟨g, 0, none⟩ n cap xs (by rw [hsize]; exact hxs) (by simpa using hown.cells (g := g) rfl)
        have hr := Lib.run_append_grow_zeros (P := P) w t tn ty e i (.int .u8 0) .i64 .i64 ht htn hi hz (some ⟨g, 0, none⟩) n cap xs hold m (by omega) (by omega) (by omega) (by omega) (by rw [hby]; omega) (growslice_fits (by omega) (by rw [hby]; omega))
        have hgr := grown cap (by omega) (Value.ownBlock (.slice (some ⟨g, 0, none⟩) n cap))
        exact ⟨_, _, hr, hgr.1, hgr.2, .inr rfl⟩

theorem wpList_append_zeros_rd {P : Program} {w : World} {a : Act} {o : Oper} {Q : Exit → Act → World → Prop} {ops : Array Oper} {rest : List Oper} (hgd : o.guard = none) (s x : Operand) (t tn : TypeId)
    (ho : o.op = .call { callee := .builtin .append, args := #[s, x], argTypes := #[t, tn] })
    (base : Nat) (e : TypeId) (ht : P.underlying t = some (.slice e)) (htn : P.underlying tn = some (.int .i64)) (hinfo : (P.info? e).map (fun i => (i.zero, i.size, i.bytes)) = some (some (.int .u8 0), 1, 1))
    (v : Value) (l0 : List UInt8) (hs : a.eval s = v) (hown : w.ownsRow base e 1 v l0.length (bcells l0))
    (m : Nat) (hx : a.eval x = .int .i64 m) (hl : l0.length + m ≤ 70368744177664) (hbase : base ≤ w.heap.size)
    (h : ∀ ao co w', w'.ownsRow base e 1 (.slice ao (l0.length + m) co) (l0 ++ List.replicate m 0).length (bcells (l0 ++ List.replicate m 0)) → w.grownBy w' v.ownBlock → ((Value.slice ao (l0.length + m) co).ownBlock = v.ownBlock ∨ (Value.slice ao (l0.length + m) co).ownBlock = some w.heap.size) → wpList P ops Q rest (a.put o.dst (.slice ao (l0.length + m) co)) w') : wpList P ops Q (o :: rest) a w := by
  obtain ⟨i0, hi, hz0, hz1, hz2⟩ := info_parts hinfo
  obtain ⟨v', w', hr, h2, h3, h4⟩ := run_append_zeros_own (P := P) w base t tn o.type e i0 ht htn hi hz0 hz1 hz2 v l0.length (bcells l0) hown m hl hbase
  have hb : bcells l0 ++ List.replicate m (Value.int .u8 0) = bcells (l0 ++ List.replicate m 0) := by simp [bcells]
  have e0 : l0.length + m = (l0 ++ List.replicate m (0 : UInt8)).length := by simp
  rw [hb] at h2
  obtain ⟨ao, co, rfl⟩ := (ownsRow_rd h2).head
  exact Lib.wpList_append_run w hgd s x t tn ho _ _ hs hx _ _ hr (h ao co w' (by rw [← e0]; exact h2) h3 h4)
end Go.Proofs.YtglgjakjhkdoaaaGreatDoor
