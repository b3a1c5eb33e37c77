/-
  The head of frame's laws: known.
-/
import Derived.Test.YtnnhgennmlkpmaaFrV
import Derived.Test.YtnnhgennmlkpmaaFrW
import Derived.Test.YtnnhgennmlkpmaaItems2
namespace Go.Proofs.Ytnnhgennmlkpmaa
open Go.RowKit
set_option linter.unusedVariables false
set_option linter.unusedSimpArgs false

def hello : Fr := ⟨1, 1, 0, 0, 0, 0, 0, false, 0, [], 0⟩
theorem hello_may : mayB hello = true := by decide +kernel
theorem hello_ok : hello.Ok := by constructor <;> decide
theorem hello_len : (writeB hello).length = 44 := rfl
theorem hello_dec : decE (writeB hello) = 0 ∧ (decF (writeB hello)).epoch = 1 := by decide +kernel
theorem hello_five : (writeB hello)[5]? = some 0 := by decide +kernel
theorem hello_bent : decE ((writeB hello).set 5 1) = 71 := by decide +kernel
theorem ownsRow_cap {w : World} {base e size n c : Nat} {a : Option Addr} {xs : List Value} (h : w.ownsRow base e size (.slice a n c) n xs) : n ≤ c ∧ c ≤ 9223372036854775807 := by
  rcases h.2 with ⟨h1, h2⟩ | ⟨g, cap, cur, h1, h2, h3, h4, h5, h6, h7⟩
  · simp only [Value.slice.injEq] at h1
    omega
  · simp only [Value.slice.injEq] at h1
    obtain ⟨_, _, rfl⟩ := h1
    unfold maxLen at h5
    exact ⟨h4, h5⟩
/-- bytes that are copied to new memory, their number by a name -/
theorem wpList_clone_rd' {P : Program} {w : World} {a : Act} {o : Oper} {Q : Exit → Act → World → Prop} {ops : Array Oper} {rest : List Oper} (hgd : o.guard = none) (s x : Operand) (t : TypeId)
    (ho : o.op = .call { callee := .builtin .append, args := #[s, x], argTypes := #[t, t] })
    (e : TypeId) (ht : P.underlying t = some (.slice e)) (hinfo : (P.info? e).map (fun i => (i.zero, i.size, i.bytes)) = some (some (.int .u8 0), 1, 1))
    (hs : a.eval s = .slice none 0 0) (xv : Value) (l : List UInt8) (m : Nat) (hm : m = l.length) (hx : a.eval x = xv) (hrd : RdB w xv l) (hl : m ≤ 70368744177664)
    (h : ∀ ao co w', w'.ownsRow w.heap.size e 1 (.slice ao m co) m (bcells l) → Below w.heap.size w w' → wpList P ops Q rest (a.put o.dst (.slice ao m co)) w') : wpList P ops Q (o :: rest) a w := by
  subst hm
  exact wpList_clone_rd hgd s x t ho e ht hinfo hs xv l hx hrd hl h
theorem decE_short {b : List UInt8} (h : b.length < 44) : decE b = 70 := by
  unfold decE lenOk
  rw [decide_eq_false (by omega)]; rfl

set_option maxRecDepth 100000 in
set_option maxHeartbeats 1600000 in
theorem fr_known (w : World) : Calls Try.prog 8 #[] w fun e w' => e = .returned (.bool true) ∧ Below w.heap.size w w' := by
  go_enter Try.func8, Try.ntmps8
  go_wp2_with fail
  refine (fr_encode hello none 0 w hello_ok (by decide) (RdB.nil w) hello_may).mono ?_
  rintro e w1 ⟨a, c, rfl, ho, hb⟩
  have hl44 := hello_len
  obtain ⟨B, hB⟩ : ∃ B, B = writeB hello := ⟨_, rfl⟩
  rw [← hB] at ho hl44 ⊢
  have HBB := hide hB
  rw [hl44] at ho ⊢
  obtain ⟨hc1, hc2⟩ := ownsRow_cap ho
  obtain ⟨g, cap, he, hge⟩ := ownsRow_some ho (by intro e; rcases ho.2 with ⟨_, h0⟩ | ⟨_, _, _, h0, _⟩ <;> simp [e] at *)
  simp only [Value.slice.injEq, true_and] at he
  obtain ⟨rfl, rfl⟩ := he
  have HO := hide ho; have HB := hide hb; have HL := hide hl44
  have hrd : RdB w1 (.slice (some ⟨g, 0, none⟩) B.length c) B := by show Rd _ _ 1 _ _; rw [hl44]; exact ownsRow_rd ho
  have HRD := hide hrd
  clear ho hb hl44 hB hrd
  go_wp2_with fail
  have hd := fr_decode _ c B w1 HRD.out (by rw [HL.out]; omega) (by rw [HL.out]; exact hc1) hc2
  rw [HL.out] at hd
  refine hd.mono ?_
  clear hd
  rintro e w2 ⟨a2, c2, rfl, hr2, hb2, _⟩
  have HB2 := hide (HB.out.trans (hb2.mono HB.out.size))
  have HO2 := hide (ownsRow_below HO.out hb2 (Nat.le_refl _))
  have HDE := hide hello_dec
  rw [← HBB.out] at HDE
  obtain ⟨F, hF⟩ : ∃ F, F = decF B := ⟨_, rfl⟩
  rw [← hF, HDE.out.1]
  rw [← hF] at HDE
  generalize F.b.length = n2
  have hfV : frV F (.slice a2 n2 c2) = .agg #[.int .u8 F.kind, .int .u32 F.epoch, .int .u32 F.series, .int .u32 F.chunk, .int .u32 F.bits, .int .u32 F.cnt, .int .u32 F.count, .bool F.closed, .int .u64 F.sum, .slice a2 n2 c2, .int .i64 F.n] := rfl
  rw [hfV, HDE.out.2]
  have c5 : w2.cell? ⟨g, 5, none⟩ = some (.int .u8 0) := by
    rw [HO2.out.cellAt 5 (by omega)]
    have h5 := hello_five
    rw [← HBB.out] at h5
    simp [bcells, h5]
  have f5 : w2.frozen? ⟨g, 5, none⟩ = false := HO2.out.frozenAt _
  have g5 : g < w2.heap.size := (HO2.out.lt g rfl).2
  have hx1 : bits .xor .u8 0 1 = 1 := by decide
  clear hfV hr2 hb2 hF HO HB
  go_wp2_with fail
  have hst := (HO2.out.stored 5 (.int .u8 1)).1
  have hset : (bcells B).set 5 (.int .u8 1) = bcells (B.set 5 1) := by simp [bcells, List.map_set]
  have hst2 : (w2.setCell ⟨g, 5, none⟩ (.int .u8 1)).ownsRow w.heap.size 5 1 (.slice (some ⟨g, 0, none⟩) 44 c) 44 (bcells (B.set 5 1)) := by rw [← hset]; exact hst
  clear hst hset
  have HB3 := hide (HB2.out.setCell (p := ⟨g, 5, none⟩) hge (.int .u8 1))
  have HBD : Hid (decE (B.set 5 1) = 71) := hide (by rw [HBB.out]; exact hello_bent)
  have hl2 : (B.set 5 1).length = 44 := by rw [List.length_set]; exact HL.out
  obtain ⟨C, hC⟩ : ∃ C, C = B.set 5 1 := ⟨_, rfl⟩
  rw [← hC] at hst2 hl2 HBD
  have HL2 := hide hl2
  clear hC hl2 c5 f5 hx1 HO2
  generalize hW3 : w2.setCell ⟨g, 5, none⟩ (.int .u8 1) = W3 at *
  have hs3 : W3.heap.size = w2.heap.size := by rw [← hW3]; exact size_setCell _ _ _
  have HO3 := hide hst2
  clear hst2
  have hd := fun (W : World) (hW : Below W3.heap.size W3 W) => fr_decode (some ⟨g, 0, none⟩) c C W (by show Rd _ _ 1 _ _; rw [HL2.out]; exact ownsRow_rd (ownsRow_below HO3.out hW (Nat.le_refl _))) (by rw [HL2.out]; omega) (by rw [HL2.out]; exact hc1) hc2
  rw [HL2.out] at hd
  have HD := hide hd
  clear hd
  refine (HD.out _ (below_alloc _ _)).mono ?_
  rintro e w4 ⟨a4, c4, rfl, hr4, hb4, _⟩
  rw [HBD.out]
  have hb34 : Below W3.heap.size W3 w4 := (below_alloc W3 _).trans (hb4.mono (by simp))
  have ce : w4.cell? ⟨w2.heap.size, 1, none⟩ = some (.int .u32 1) := by
    rw [hb4.cell (p := ⟨w2.heap.size, 1, none⟩) (by simp; omega), ← hs3, alloc_cell]; rfl
  generalize (decF C).b.length = n4
  generalize decF C = F4
  have hfV : frV F4 (.slice a4 n4 c4) = .agg #[.int .u8 F4.kind, .int .u32 F4.epoch, .int .u32 F4.series, .int .u32 F4.chunk, .int .u32 F4.bits, .int .u32 F4.cnt, .int .u32 F4.count, .bool F4.closed, .int .u64 F4.sum, .slice a4 n4 c4, .int .i64 F4.n] := rfl
  rw [hfV]
  have hsz4 : w2.heap.size < w4.heap.size := by have := hb4.size; simp at this; omega
  have HB34 := hide hb34
  clear hfV hr4 hb4 hb34
  go_wp2_with fail
  have hd3 : ∀ (W : World), Below W3.heap.size W3 W → Calls Try.prog 14 #[.slice (some ⟨g, 0, none⟩) 43 c] W (Told W (decF (C.take 43)) 70) := fun W hW => by
    have h1 : RdB W (.slice (some ⟨g, 0, none⟩) C.length c) C := by show Rd _ _ 1 _ _; rw [HL2.out]; exact ownsRow_rd (ownsRow_below HO3.out hW (Nat.le_refl _))
    have h2 := h1.take 43 (by rw [HL2.out]; omega) (by rw [HL2.out]; omega)
    have e43 : (C.take 43).length = 43 := by rw [List.length_take, HL2.out]; rfl
    have h3 := fr_decode (some ⟨g, 0, none⟩) c (C.take 43) W (by rw [e43]; exact h2) (by rw [e43]; omega) (by rw [e43]; omega) hc2
    rw [e43, decE_short (by rw [e43]; omega)] at h3
    exact h3
  refine (hd3 _ (HB34.out.trans ((below_alloc w4 _).mono HB34.out.size))).mono ?_
  clear hd3
  rintro e w6 ⟨a6, c6, rfl, hr6, hb6, _⟩
  have hs34 := HB34.out.size
  have hb36 : Below W3.heap.size W3 w6 := HB34.out.trans (((below_alloc w4 _).trans (hb6.mono (by simp))).mono hs34)
  have ce6 : w6.cell? ⟨w2.heap.size, 1, none⟩ = some (.int .u32 1) := by
    rw [hb6.cell (p := ⟨w2.heap.size, 1, none⟩) (by simp; omega), (below_alloc w4 _).cell (p := ⟨w2.heap.size, 1, none⟩) hsz4]; exact ce
  have hsz6 : w2.heap.size < w6.heap.size := by have := hb6.size; simp at this; omega
  generalize (decF (C.take 43)).b.length = n6
  generalize decF (C.take 43) = F6
  have hfV : frV F6 (.slice a6 n6 c6) = .agg #[.int .u8 F6.kind, .int .u32 F6.epoch, .int .u32 F6.series, .int .u32 F6.chunk, .int .u32 F6.bits, .int .u32 F6.cnt, .int .u32 F6.count, .bool F6.closed, .int .u64 F6.sum, .slice a6 n6 c6, .int .i64 F6.n] := rfl
  rw [hfV]
  have HEND := hide (HB3.out.trans (hb36.mono HB3.out.size))
  clear hfV hr6 hb6 hb36
  go_wp2
  go_ret
  exact ⟨rfl, HEND.out.alloc (by have := HEND.out.size; omega) _⟩
end Go.Proofs.Ytnnhgennmlkpmaa
