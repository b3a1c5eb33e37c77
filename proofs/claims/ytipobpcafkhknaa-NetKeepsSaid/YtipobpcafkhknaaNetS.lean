/-
  The reference's network: what it reads as; New, is, add.
-/
import Derived.Test.YtipobpcafkhknaaNetO
import Derived.Test.YtipobpcafkhknaaItems2
namespace Go.Proofs.Ytipobpcafkhknaa
open Go.RowKit
set_option linter.unusedVariables false
set_option linter.unusedSimpArgs false

theorem info_bool : (Try.prog.info? 4).map (fun i => (i.zero, i.size, i.bytes)) = some (some (.bool false), 1, 1) := by kernel_rfl

def refFp (rb : Nat) (Bv Lv : Value) (L : List Item) : List Nat := rb :: (Bv.ownBlock.toList ++ itFp Lv L)
def bents (l : List G) : List Value := l.map fun g => .bool g.bent

/-- what the reference's network holds: at block rb, all of it in the blocks F -/
structure RefAt (w : World) (rb : Nat) (l : List G) (Lv Bv : Value) (L : List Item) : Prop where
  cells : w.heap[rb]? = some (.cells #[Lv, Bv] 46 (0, 0))
  items : Items w 33 2 Lv L
  key : L.map Item.key = l.map G.key
  row : w.ownsRow 0 4 1 Bv l.length (bents l)
  sepL : rb ∉ itFp Lv L
  sepB : ∀ k, Bv.ownBlock = some k → k ∉ itFp Lv L ∧ k ≠ rb
def RefRep (w : World) (rb : Nat) (l : List G) (F : List Nat) : Prop := ∃ Lv Bv L, RefAt w rb l Lv Bv L ∧ F = refFp rb Bv Lv L

theorem RefAt.same {w w' : World} {rb : Nat} {l : List G} {Lv Bv : Value} {L : List Item} (h : RefAt w rb l Lv Bv L) (hk : ∀ k ∈ refFp rb Bv Lv L, w'.heap[k]? = w.heap[k]?) : RefAt w' rb l Lv Bv L :=
  ⟨by rw [hk rb (by simp [refFp])]; exact h.cells, h.items.same fun k hk' => hk k (by simp [refFp, hk']), h.key, ownsRow_same h.row fun b hb => hk b (by simp [refFp, hb]), h.sepL, h.sepB⟩
theorem RefAt.lt {w : World} {rb : Nat} {l : List G} {Lv Bv : Value} {L : List Item} (h : RefAt w rb l Lv Bv L) : ∀ k ∈ refFp rb Bv Lv L, k < w.heap.size := by
  intro k hk
  simp only [refFp, List.mem_cons, List.mem_append, Option.mem_toList] at hk
  rcases hk with rfl | hk | hk
  · exact (Array.getElem?_eq_some_iff.1 h.cells).1
  · exact (h.row.lt k hk).2
  · exact h.items.lt k hk
theorem RefRep.same {w w' : World} {rb : Nat} {l : List G} {F : List Nat} (h : RefRep w rb l F) (hk : ∀ k ∈ F, w'.heap[k]? = w.heap[k]?) : RefRep w' rb l F := by
  obtain ⟨Lv, Bv, L, h1, rfl⟩ := h
  exact ⟨Lv, Bv, L, h1.same hk, rfl⟩
theorem RefRep.lt {w : World} {rb : Nat} {l : List G} {F : List Nat} (h : RefRep w rb l F) : ∀ k ∈ F, k < w.heap.size := by
  obtain ⟨Lv, Bv, L, h1, rfl⟩ := h
  exact h1.lt
theorem RefRep.below {w w' : World} {rb : Nat} {l : List G} {F : List Nat} (h : RefRep w rb l F) (hb : Below w.heap.size w w') : RefRep w' rb l F := h.same fun k hk => hb.block k (h.lt k hk)

set_option maxHeartbeats 400000 in
theorem ref_new (w : World) : Calls Try.prog 15 #[] w fun e w' =>
    e = .returned (.pointer (some ⟨w.heap.size, 0, none⟩)) ∧ w' = w.alloc (.cells #[.slice none 0 0, .slice none 0 0] 46) := by
  go_enter Try.func15, Try.ntmps15
  go_wp2
  go_ret
  exact ⟨rfl, rfl⟩
theorem ref_new_rep (w : World) : RefRep (w.alloc (.cells #[.slice none 0 0, .slice none 0 0] 46)) w.heap.size [] [w.heap.size] :=
  ⟨.slice none 0 0, .slice none 0 0, [], ⟨by show (w.heap.push _)[w.heap.size]? = _; simp, Items.nil _ _ _, rfl, World.ownsRow_nil _ _ _ _, by simp [itFp, Value.ownBlock], by simp [Value.ownBlock]⟩, by simp [refFp, itFp, Value.ownBlock]⟩

theorem RefAt.len {w : World} {rb : Nat} {l : List G} {Lv Bv : Value} {L : List Item} (h : RefAt w rb l Lv Bv L) : L.length = l.length := by have := congrArg List.length h.key; simpa using this
theorem RefAt.heads {w : World} {rb : Nat} {l : List G} {Lv Bv : Value} {L : List Item} (h : RefAt w rb l Lv Bv L) : (∃ a c, Lv = .slice a l.length c) ∧ (∃ a c, Bv = .slice a l.length c) ∧ w.cell? ⟨rb, 0, none⟩ = some Lv ∧ w.cell? ⟨rb, 1, none⟩ = some Bv ∧ w.frozen? ⟨rb, 0, none⟩ = false ∧ w.frozen? ⟨rb, 1, none⟩ = false ∧ rb < w.heap.size := by
  refine ⟨?_, ?_, by simp [World.cell?, h.cells], by simp [World.cell?, h.cells], by simp [World.frozen?, h.cells], by simp [World.frozen?, h.cells], (Array.getElem?_eq_some_iff.1 h.cells).1⟩
  · obtain ⟨a, c, rfl⟩ := h.items.head
    exact ⟨a, c, by rw [h.len]⟩
  · exact (ownsRow_rd h.row).head

set_option maxHeartbeats 400000 in
theorem ref_is (rb : Nat) (l : List G) (F : List Nat) (i : Int) (w : World) (h : RefRep w rb l F) (hl : l.length ≤ 4096) :
    Calls Try.prog 29 #[.pointer (some ⟨rb, 0, none⟩), .int .i64 i] w fun e w' => e = .returned (.bool (decide (0 ≤ i ∧ i < l.length))) ∧ w = w' := by
  obtain ⟨Lv, Bv, L, h, rfl⟩ := h
  obtain ⟨⟨a, c, rfl⟩, ⟨a', c', rfl⟩, c0, _⟩ := h.heads
  clear h
  by_cases h0 : 0 ≤ i
  · by_cases h1 : i < l.length
    · go_enter Try.func29, Try.ntmps29
      go_wp2
      go_ret
      exact ⟨by simp [h0, h1], rfl⟩
    · go_enter Try.func29, Try.ntmps29
      go_wp2
      go_ret
      exact ⟨by simp [h0, h1], rfl⟩
  · go_enter Try.func29, Try.ntmps29
    go_wp2
    go_ret
    exact ⟨by rw [decide_eq_false (by omega)]; rfl, rfl⟩

/-- one more -/
theorem ref_add_close {w wA w2 w5 : World} {rb : Nat} {l : List G} {Lv Bv Lv' Bv' : Value} {L : List Item} {g : G} {x : Value} {o : Obj} (h : RefAt w rb l Lv Bv L) (hb : Below w.heap.size w wA)
    (hx : wA.ownsRow 0 5 1 x g.b.length (bcells g.b)) (hxn : ∀ q, x.ownBlock = some q → w.heap.size ≤ q) (hx1 : x.oneCell' = true) (hgrow : wA.grownBy w2 Lv.ownBlock)
    (hown2 : w2.ownsRow 0 33 2 Lv' (L.length + 1) (L.flatMap Item.cells ++ [.int .u8 g.to, x])) (hv' : Lv'.ownBlock = Lv.ownBlock ∨ Lv'.ownBlock = some wA.heap.size)
    (hgrow2 : ((w2.setCell ⟨rb, 0, none⟩ Lv').alloc o).grownBy w5 Bv.ownBlock) (hown5 : w5.ownsRow 0 4 1 Bv' (l.length + 1) (bents l ++ [.bool g.bent])) (hv5 : Bv'.ownBlock = Bv.ownBlock ∨ Bv'.ownBlock = some ((w2.setCell ⟨rb, 0, none⟩ Lv').alloc o).heap.size) :
    ∃ F', RefRep (w5.setCell ⟨rb, 1, none⟩ Bv') rb (l ++ [g]) F' ∧ Chg (refFp rb Bv Lv L) F' w (w5.setCell ⟨rb, 1, none⟩ Bv') := by
  obtain ⟨hI, hC⟩ := h.items.append (t := ⟨[.int .u8 g.to], x, [], g.b⟩) hb rfl (by intro u hu; simp [Item.cells] at hu; rcases hu with rfl | rfl <;> first | rfl | exact hx1) hx hxn hgrow hown2 hv'
  have hlt := h.lt
  have hrb : rb < w.heap.size := hlt rb (by simp [refFp])
  have hsz : ((w2.setCell ⟨rb, 0, none⟩ Lv').alloc o).heap.size = w2.heap.size + 1 := by simp [World.setCell]
  have hs2 : w.heap.size ≤ w2.heap.size := hC.size
  have hs5 := hgrow2.size
  have hnew : ∀ k ∈ itFp Lv' (L ++ [⟨[.int .u8 g.to], x, [], g.b⟩]), k ≠ rb ∧ (∀ q, Bv.ownBlock = some q → k ≠ q) ∧ k < w2.heap.size := by
    intro k hk
    refine ⟨?_, ?_, hI.lt k hk⟩
    · rintro rfl
      rcases hC.fresh k hk with h1 | h1
      · exact h.sepL h1
      · omega
    · rintro q hq rfl
      rcases hC.fresh k hk with h1 | h1
      · exact (h.sepB k hq).1 h1
      · have := hlt k (by simp [refFp, hq]); omega
  have hkeep : ∀ k, k < w2.heap.size → k ≠ rb → (∀ q, Bv.ownBlock = some q → k ≠ q) → (w5.setCell ⟨rb, 1, none⟩ Bv').heap[k]? = w2.heap[k]? := by
    intro k hk hkr hkb
    rw [heap_set_ne hkr, hgrow2.block k (by omega) (fun e => hkb k e.symm rfl), Below.heap_alloc _ _ _ (by simp [World.setCell]; omega), heap_set_ne hkr]
  have hrow : ∀ q, Bv'.ownBlock = some q → q ≠ rb ∧ ∀ k ∈ itFp Lv' (L ++ [⟨[.int .u8 g.to], x, [], g.b⟩]), q ≠ k := by
    intro q hq
    rcases hv5 with e | e
    · rw [e] at hq
      exact ⟨(h.sepB q hq).2, fun k hk => fun e2 => (hnew k hk).2.1 q hq e2.symm⟩
    · rw [e] at hq
      cases hq
      exact ⟨by omega, fun k hk e2 => by have := (hnew k hk).2.2; omega⟩
  refine ⟨_, ⟨Lv', Bv', _, ⟨?_, hI.same fun k hk => hkeep k (hnew k hk).2.2 (hnew k hk).1 (hnew k hk).2.1, ?_, ?_, fun hm => (hnew rb hm).1 rfl, fun q hq => ⟨fun hm => (hrow q hq).2 q hm rfl, (hrow q hq).1⟩⟩, rfl⟩, ⟨?_, ?_, ?_, ?_, fun k hk hkn => ?_, fun k hk => ?_⟩⟩
  · have e2 : w2.heap[rb]? = some (.cells #[Lv, Bv] 46 (0, 0)) := by rw [hC.block rb hrb h.sepL]; exact h.cells
    have e5 : w5.heap[rb]? = some (.cells #[Lv', Bv] 46 (0, 0)) := by
      rw [hgrow2.block rb (by omega) (fun e => (h.sepB rb e.symm).2 rfl), Below.heap_alloc _ _ _ (by simp [World.setCell]; omega), setCell_heap e2]
      rfl
    rw [setCell_heap e5]
    rfl
  · rw [List.map_append, List.map_append, h.key]
    rfl
  · have := ownsRow_same (w' := w5.setCell ⟨rb, 1, none⟩ Bv') hown5 fun q hq => heap_set_ne (hrow q hq).1
    simpa [bents] using this
  · exact hgrow2.os.trans hC.os
  · exact hgrow2.tape.trans hC.tape
  · exact hgrow2.output.trans hC.output
  · simp [World.setCell]; omega
  · simp only [refFp, List.mem_cons, List.mem_append, not_or, Option.mem_toList] at hkn
    rw [hkeep k (by omega) hkn.1 (fun q hq e => hkn.2.1 (e ▸ hq)), hC.block k hk hkn.2.2]
  · simp only [refFp, List.mem_cons, List.mem_append, Option.mem_toList] at hk ⊢
    rcases hk with rfl | hk | hk
    · exact .inl (.inl rfl)
    · rcases hv5 with e | e
      · exact .inl (.inr (.inl (e ▸ hk)))
      · rw [e] at hk; cases hk; exact .inr (by omega)
    · rcases hC.fresh k hk with h1 | h1
      · exact .inl (.inr (.inr h1))
      · exact .inr h1

set_option maxRecDepth 100000 in
set_option maxHeartbeats 1600000 in
theorem ref_add (rb : Nat) (l : List G) (F : List Nat) (t : Int) (ad : Addr) (c : Nat) (b : List UInt8) (bent : Bool) (w : World) (h : RefRep w rb l F) (hl : l.length ≤ 4096) (hx : Rd w (.slice (some ad) b.length c) 1 b.length (bcells b)) (hb0 : 0 < b.length) (hb : b.length ≤ 4096) :
    Calls Try.prog 31 #[.pointer (some ⟨rb, 0, none⟩), .int .u8 t, .slice (some ad) b.length c, .bool bent] w (Moved (fun w' F' => RefRep w' rb (l ++ [⟨t, b, bent⟩]) F') (.tuple #[]) w F) := by
  obtain ⟨Lv, Bv, L, h, rfl⟩ := h
  obtain ⟨⟨a, c1, rfl⟩, ⟨a', c2, rfl⟩, c0, c1', f0, f1, hrb⟩ := h.heads
  have hll := h.len
  have H := hide h; have HLL := hide hll
  obtain ⟨i0, hi0, hz0, hz1, hz2⟩ := info_parts info_u8
  obtain ⟨i1, hi1, hy0, hy1, hy2⟩ := info_parts info_Gram
  obtain ⟨i2, hi2, hw0, hw1, hw2⟩ := info_parts info_bool
  clear h hll
  go_enter Try.func31, Try.ntmps31
  go_wp2_with (at_builtin; refine wpList_append_rd rfl (.tmp 9) (.tmp 10) 22 rfl 0 5 i0 (.int .u8 0) 1 1 Try.underlying22 hi0 hz0 hz1 hz2 rfl (by decide) (.slice none 0 0) 0 [] rfl (World.ownsRow_nil _ _ _ _) _ b.length (bcells b) rfl hx (bcells_one b) (by unfold maxLen; omega) (by omega) (by simp) ?_)
  intro x w1 hox hg1 hnil hv1
  have hbne : b ≠ [] := by intro e; rw [e] at hb0; simp at hb0
  obtain ⟨g, gc, rfl, _⟩ := ownsRow_some hox (fun e => hbne (hnil.1 e))
  have hb1 : Below w.heap.size w w1 := (Below.refl _ _).grown hg1 (Nat.le_refl _) (by simp [Value.ownBlock])
  have hgw : w.heap.size ≤ g := by
    simp only [Value.ownBlock, Option.some.injEq] at hv1
    rcases hv1 with e | e
    · cases e
    · omega
  have hs1 := hb1.size
  have hrb1 : rb < w1.heap.size := by omega
  have d0 : ∀ o, (w1.alloc o).cell? ⟨rb, 0, none⟩ = some (.slice a l.length c1) := fun o => by rw [World.cell?_alloc_past _ _ _ hrb1]; exact (hb1.cell (p := ⟨rb, 0, none⟩) hrb).trans c0
  have d0' := (hb1.cell (p := ⟨rb, 0, none⟩) hrb).trans c0
  have hrow : ∀ o, (w1.alloc o).ownsRow 0 33 2 (.slice a l.length c1) l.length (L.flatMap Item.cells) := fun o => by
    have := ownsRow_below H.out.items.row (hb1.alloc hs1 o) (Nat.le_refl _)
    rw [HLL.out] at this
    exact this
  have HROW := hide hrow
  have HB1 := hide hb1; have HOX := hide hox; have HV1 := hide hv1; have HG1 := hide hg1
  clear hb1 hox hnil hv1 hg1 hbne hrow
  go_wp2_with (at_builtin; refine wpList_append_rd rfl (.tmp 16) (.tmp 20) 37 rfl 0 33 i1 (.agg #[.int .u8 0, .slice none 0 0]) 2 32 Try.underlying37 hi1 hy0 hy1 hy2 rfl (by decide) (.slice a l.length c1) l.length (L.flatMap Item.cells) rfl (HROW.out _) _ 1 [.int .u8 t, .slice (some ⟨g, 0, none⟩) b.length gc] rfl (rd_new _ _ _ 1 2 (by simp) (by simp)) (by simp [Value.oneCell']) (by unfold maxLen; omega) (by omega) (by simp) ?_)
  intro v2 w2 hown2 hgrow2 hnil2 hv2
  obtain ⟨g2, gc2, rfl, _⟩ := ownsRow_some hown2 (by simp [hnil2])
  have hne : ∀ k, (Value.slice a l.length c1).ownBlock = some k → rb ≠ k := fun k hk e => H.out.sepL (by simp only [itFp]; exact List.mem_append_left _ (by rw [← e] at hk; simp [hk]))
  have hg2 := grown_cell hgrow2 (b := rb) (o := 0) (by simp; omega) hne
  have hg3 := grown_cell hgrow2 (b := rb) (o := 1) (by simp; omega) hne
  have hbA : ∀ o, Below w.heap.size w (w1.alloc o) := fun o => HB1.out.alloc hs1 o
  have m0 := (hg2.1.trans ((hbA _).cell (p := ⟨rb, 0, none⟩) hrb)).trans c0
  have m1 := (hg3.1.trans ((hbA _).cell (p := ⟨rb, 1, none⟩) hrb)).trans c1'
  have n0 := (hg2.2.trans ((hbA _).frozen (p := ⟨rb, 0, none⟩) hrb)).trans f0
  have n1 := (hg3.2.trans ((hbA _).frozen (p := ⟨rb, 1, none⟩) hrb)).trans f1
  have hs2 : w1.heap.size + 1 ≤ w2.heap.size := by have := hgrow2.size; simpa using this
  have hBw : ∀ o, ((w2.setCell ⟨rb, 0, none⟩ (.slice (some ⟨g2, 0, none⟩) (l.length + 1) gc2)).alloc o).ownsRow 0 4 1 (.slice a' l.length c2) l.length (bents l) := fun o => by
    refine ownsRow_same H.out.row fun q hq => ?_
    have hql := (H.out.row.lt q hq).2
    obtain ⟨s1, s2⟩ := H.out.sepB q hq
    rw [Below.heap_alloc _ _ _ (by simp [World.setCell]; omega), heap_set_ne s2, hgrow2.block q (by simp; omega) (fun e => s1 (by simp only [itFp]; exact List.mem_append_left _ (by simp [← e]))), (hbA _).block q hql]
  have hrb2 : rb < w2.heap.size := by omega
  have hca : ∀ o, ((w2.setCell ⟨rb, 0, none⟩ (.slice (some ⟨g2, 0, none⟩) (l.length + 1) gc2)).alloc o).cell? ⟨rb, 1, none⟩ = some (.slice a' l.length c2) := fun o => by
    rw [World.cell?_alloc_past _ _ _ (by simpa [World.setCell] using hrb2), World.cell?_setCell_other _ _ _ _ (by simp)]; exact m1
  have HBW := hide hBw; have HO2 := hide hown2; have HG2 := hide hgrow2; have HV2 := hide hv2
  clear hg2 hg3 hbA hBw hown2 hgrow2 hnil2 hv2 d0 d0' c0 c1' f0 f1 hne
  go_wp2_with (at_builtin; refine wpList_append_rd rfl (.tmp 28) (.tmp 30) 44 rfl 0 4 i2 (.bool false) 1 1 Try.underlying44 hi2 hw0 hw1 hw2 rfl (by decide) (.slice a' l.length c2) l.length (bents l) rfl (HBW.out _) _ 1 [.bool bent] rfl (rd_new' _ _ _ _ 1 1 (size_setCell _ _ _).symm (by simp) (by simp)) (by simp [Value.oneCell']) (by unfold maxLen; omega) (by omega) (by simp) ?_)
  intro v5 w5 hown5 hgrow5 hnil5 hv5
  obtain ⟨g5, gc5, rfl, _⟩ := ownsRow_some hown5 (by simp [hnil5])
  have hne5 : ∀ k, (Value.slice a' l.length c2).ownBlock = some k → rb ≠ k := fun k hk e => (H.out.sepB k hk).2 e.symm
  have r5 := grown_cell hgrow5 (b := rb) (o := 1) (by simp [World.setCell]; omega) hne5
  have m5 := r5.1.trans (hca _)
  have n5 : w5.frozen? ⟨rb, 1, none⟩ = false := by
    rw [r5.2, World.frozen?_alloc_past _ _ _ (by simpa [World.setCell] using hrb2), World.frozen?_setCell]
    exact n1
  have hfin := ref_add_close (g := ⟨t, b, bent⟩) H.out (HB1.out.alloc hs1 _) (HOX.out.alloc _) (fun q hq => by simp only [Value.ownBlock, Option.some.injEq] at hq; omega) rfl HG2.out (by rw [HLL.out]; exact HO2.out) (by simpa using HV2.out) hgrow5 hown5 (by simpa [World.setCell] using hv5)
  have HF := hide hfin
  clear r5 hfin hown5 hgrow5 hnil5 hv5 hca hne5
  go_wp2
  go_end0
  exact ⟨rfl, HF.out⟩
end Go.Proofs.Ytipobpcafkhknaa
