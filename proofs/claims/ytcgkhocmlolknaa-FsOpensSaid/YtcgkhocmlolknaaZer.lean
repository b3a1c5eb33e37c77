/-
  append of noughts (append(b, make([]byte, n)...)) onto a slice of the call's own.
-/
import Derived.Test.YtcgkhocmlolknaaOwn
import Derived.Lib.AppendZerosOnto
namespace Go.Proofs.Ytcgkhocmlolknaa
open Go.RowKit
set_option linter.unusedVariables false
set_option linter.unusedSimpArgs false

theorem zeroCells_u8 (m : Nat) : (Builtin.zeroCells (Value.int .u8 0).cells m) = (List.replicate m (Value.int .u8 0)).toArray := by
  apply Array.ext
  · simp [Builtin.zeroCells, Value.cells]
  · intro i h1 h2
    simp [Builtin.zeroCells, Value.cells, Nat.mod_one]
theorem run_append_zeros_own {P : Program} (w : World) (base : Nat) (t tn ty e : TypeId) (i : TypeInfo) (ht : P.underlying t = some (.slice e)) (htn : P.underlying tn = some (.int .i64)) (hi : P.info? e = some i) (hz : i.zero = some (.int .u8 0))
    (hsize : i.size = 1) (hby : i.bytes = 1) (v : Value) (n : Nat) (xs : List Value) (hown : w.ownsRow base e 1 v n xs) (m : Nat) (hl : n + m ≤ 70368744177664) (hbase : base ≤ w.heap.size) :
    ∃ v' w', (Builtin.append_ #[t, tn] ty #[v, .int .i64 m]).run P w = .ok v' w' ∧ w'.ownsRow base e 1 v' (n + m) (xs ++ List.replicate m (.int .u8 0)) ∧ w.grownBy w' v.ownBlock ∧
      (v'.ownBlock = v.ownBlock ∨ v'.ownBlock = some w.heap.size) := by
  have hw : IntKind.i64.wrap (m : Int) = m := by rw [IntKind.wrap_i64]; omega
  have hw0 : IntKind.i64.wrap 0 = 0 := by rw [IntKind.wrap_i64]; omega
  have hxs := hown.1
  have hneg : ¬ ((m : Int) < 0) := by omega
  have h48i : ¬ (281474976710656 < (m : Int)) := by omega
  have hmax : maxLen = 9223372036854775807 := rfl
  by_cases hm : m = 0
  · subst hm
    have e0 : (Builtin.append_ #[t, tn] ty #[v, .int .i64 (0 : Nat)]).run P w = .ok v w := by
      rcases hown.2 with ⟨rfl, rfl⟩ | ⟨g, cap, cur, rfl, hbg, hgg, hnc, hcm, hcs, htake⟩
      · simp [Builtin.append_, run_underlying ht, run_underlying htn, sizeOf, typeInfo, hi, asInt, asIntOf, hw, hw0]
      · simp [Builtin.append_, run_underlying ht, run_underlying htn, sizeOf, typeInfo, hi, asInt, asIntOf, hw, hw0, hnc, storeCells]
    exact ⟨v, w, e0, by simpa using hown, ⟨rfl, rfl, rfl, Nat.le_refl _, fun _ _ _ => rfl⟩, .inl rfl⟩
  · have grown : ∀ (old : Nat), old < n + m → ∀ (row : Option Nat),
        (w.drew.alloc (.cells (xs.toArray ++ Builtin.zeroCells (Value.int .u8 0).cells m ++ Builtin.zeroCells (Value.int .u8 0).cells (grownCap w (n + m) old e - (n + m))) e)).ownsRow base e 1
          (.slice (some ⟨w.heap.size, 0, none⟩) (n + m) (grownCap w (n + m) old e)) (n + m) (xs ++ List.replicate m (.int .u8 0)) ∧
        w.grownBy (w.drew.alloc (.cells (xs.toArray ++ Builtin.zeroCells (Value.int .u8 0).cells m ++ Builtin.zeroCells (Value.int .u8 0).cells (grownCap w (n + m) old e - (n + m))) e)) row := by
      intro old ho row
      have hge := grownCap_ge w (n + m) old e
      have hcm : grownCap w (n + m) old e ≤ maxLen := grownCap_le_maxLen w (n + m) old e (by omega)
      refine ⟨⟨by simp [hxs], .inr ⟨w.heap.size, _, _, rfl, hbase, heap_alloc_new w.drew _, hge, hcm, ?_, ?_⟩⟩, ⟨rfl, rfl, rfl, by simp, fun k hk _ => heap_alloc_old w.drew _ hk⟩⟩
      · simp [zeroCells_u8, hxs]; omega
      · have hlen : (xs ++ List.replicate m (Value.int .u8 0)).length = (n + m) * 1 := by simp [hxs]
        simp only [Array.toList_append, zeroCells_u8, List.toList_toArray]
        rw [← hlen]
        exact List.take_left
    rcases hown.2 with ⟨rfl, rfl⟩ | ⟨g, cap, cur, rfl, hbg, hgg, hnc, hcm, hcs, htake⟩
    · have hx : xs = [] := List.eq_nil_of_length_eq_zero (by simpa using hown.1)
      subst hx
      have hr := Lib.run_append_nil_zeros (P := P) w t tn ty e i (.int .u8 0) .i64 .i64 ht htn hi hz m (by omega) (by omega) (by omega) (by rw [hby]; omega)
      have hgr := grown 0 (by omega) (Value.ownBlock (.slice none 0 0))
      simp only [Nat.zero_add, List.nil_append, Array.empty_append, List.toArray, Array.append_assoc] at hgr ⊢
      exact ⟨_, _, hr, hgr.1, hgr.2, .inr rfl⟩
    · by_cases hroom : n + m ≤ cap
      · have hst := run_storeCells_at P g n e (List.replicate m (Value.int .u8 0)) 0 cur w hgg (by simp; omega) (by intro u hu; rw [List.eq_of_mem_replicate hu]; rfl)
        simp only [Nat.add_zero] at hst
        have hr : (Builtin.append_ #[t, tn] ty #[.slice (some ⟨g, 0, none⟩) n cap, .int .i64 m]).run P w = .ok (.slice (some ⟨g, 0, none⟩) (n + m) cap) (w.setRow g (cur.toList.take n ++ List.replicate m (Value.int .u8 0) ++ cur.toList.drop (n + (List.replicate m (Value.int .u8 0)).length)).toArray) := by
          have hz8 := zeroCells_u8 m
          simp [Builtin.append_, run_underlying ht, run_underlying htn, sizeOf, typeInfo, zeroValue, hi, hz, hsize, hby, asInt, asIntOf, hw, hneg, hm, h48i, hroom, Addr.add_lit, hz8]
          simp at hst
          rw [hst]
          rfl
        refine ⟨_, _, hr, ⟨by simp [hxs], .inr ⟨g, cap, _, rfl, hbg, setRow_heap w g cur _ e _ hgg, hroom, hcm, ?_, ?_⟩⟩, ⟨rfl, rfl, rfl, by simp, fun k _ hk => setRow_other w g k _ (fun e => hk (by simp [Value.ownBlock, e]))⟩, .inl rfl⟩
        · simp only [List.size_toArray, List.length_append, List.length_take, List.length_drop, Array.length_toList, List.length_replicate]
          omega
        · have h2 : cur.toList.take n = xs := by simpa using htake
          rw [h2]
          have hlen : (xs ++ List.replicate m (Value.int .u8 0)).length = (n + m) * 1 := by simp [hxs]
          rw [← hlen]
          exact List.take_left
      · have hold := run_firstCells_some (P := P) w.drew i.size n ⟨g, 0, none⟩ n cap xs (by rw [hsize]; exact hxs) (by simpa using hown.cells (g := g) rfl)
        have hr := Lib.run_append_grow_zeros (P := P) w t tn ty e i (.int .u8 0) .i64 .i64 ht htn hi hz (some ⟨g, 0, none⟩) n cap xs hold m (by omega) (by omega) (by omega) (by omega) (by rw [hby]; omega) (growslice_fits (by omega) (by rw [hby]; omega))
        have hgr := grown cap (by omega) (Value.ownBlock (.slice (some ⟨g, 0, none⟩) n cap))
        exact ⟨_, _, hr, hgr.1, hgr.2, .inr rfl⟩

/-- the operation -/
theorem wpList_append_zeros_rd {P : Program} {w : World} {a : Act} {o : Oper} {Q : Exit → Act → World → Prop} {ops : Array Oper} {rest : List Oper} (hgd : o.guard = none) (s x : Operand) (t tn : TypeId)
    (ho : o.op = .call { callee := .builtin .append, args := #[s, x], argTypes := #[t, tn] })
    (base : Nat) (e : TypeId) (ht : P.underlying t = some (.slice e)) (htn : P.underlying tn = some (.int .i64)) (hinfo : (P.info? e).map (fun i => (i.zero, i.size, i.bytes)) = some (some (.int .u8 0), 1, 1))
    (v : Value) (l0 : List UInt8) (hs : a.eval s = v) (hown : w.ownsRow base e 1 v l0.length (bcells l0))
    (m : Nat) (hx : a.eval x = .int .i64 m) (hl : l0.length + m ≤ 70368744177664) (hbase : base ≤ w.heap.size)
    (h : ∀ ao co w', w'.ownsRow base e 1 (.slice ao (l0.length + m) co) (l0 ++ List.replicate m 0).length (bcells (l0 ++ List.replicate m 0)) → w.grownBy w' v.ownBlock → ((Value.slice ao (l0.length + m) co).ownBlock = v.ownBlock ∨ (Value.slice ao (l0.length + m) co).ownBlock = some w.heap.size) → wpList P ops Q rest (a.put o.dst (.slice ao (l0.length + m) co)) w') : wpList P ops Q (o :: rest) a w := by
  obtain ⟨i0, hi, hz0, hz1, hz2⟩ := info_parts hinfo
  obtain ⟨v', w', hr, h2, h3, h4⟩ := run_append_zeros_own (P := P) w base t tn o.type e i0 ht htn hi hz0 hz1 hz2 v l0.length (bcells l0) hown m hl hbase
  have hb : bcells l0 ++ List.replicate m (Value.int .u8 0) = bcells (l0 ++ List.replicate m 0) := by simp [bcells]
  have e0 : l0.length + m = (l0 ++ List.replicate m (0 : UInt8)).length := by simp
  rw [hb] at h2
  obtain ⟨ao, co, rfl⟩ := (ownsRow_rd h2).head
  exact Lib.wpList_append_run w hgd s x t tn ho _ _ hs hx _ _ hr (h ao co w' (by rw [← e0]; exact h2) h3 h4)
end Go.Proofs.Ytcgkhocmlolknaa
