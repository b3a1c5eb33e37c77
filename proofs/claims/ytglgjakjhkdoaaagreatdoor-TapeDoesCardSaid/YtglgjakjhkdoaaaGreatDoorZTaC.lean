/-
  The walk of tape.Read.
-/
import Derived.Test.YtglgjakjhkdoaaaGreatDoorZTaMTaB
import Derived.BigQuiet
namespace Go.Proofs.YtglgjakjhkdoaaaGreatDoor
open Go.RowKit Go.Shelf
set_option linter.unusedVariables false
set_option linter.unusedSimpArgs false

attribute [local go_sem] Oper.semAt_some

theorem wpListIn_append_gen {F : Fence} {n' : Nat} {P : Program} {w : World} {a : Act} {o : Oper} {Q : Exit → Act → World → Prop} {ops : Array Oper} {rest : List Oper} (hgd : o.guard = none) (s x : Operand) (t : TypeId)
    (ho : o.op = .call { callee := .builtin .append, args := #[s, x], argTypes := #[t, t] })
    (base : Nat) (e : TypeId) (i : TypeInfo) (z : Value) (size bytes : Nat) (ht : P.underlying t = some (.slice e)) (hi : P.info? e = some i) (hz : i.zero = some z)
    (hsize : i.size = size) (hby : i.bytes = bytes) (hzs : z.cells.size = size) (hsz : 0 < size)
    (v : Value) (n : Nat) (xs : List Value) (hs : a.eval s = v) (hown : w.ownsRow base e size v n xs)
    (xv : Value) (m : Nat) (news : List Value) (hx : a.eval x = xv) (hrd : Rd w xv size m news) (h1 : ∀ u ∈ news, u.oneCell' = true)
    (h63 : n + m ≤ maxLen) (hbytes : (n + m) * bytes ≤ 140737488355328) (hbase : base ≤ w.heap.size)
    (h : ∀ v' w', w'.ownsRow base e size v' (n + m) (xs ++ news) → w.grownBy w' v.ownBlock → (v'.ownBlock = v.ownBlock ∨ v'.ownBlock = some w.heap.size) → wpListIn F n' P ops Q rest (a.put o.dst v') w') :
    wpListIn F n' P ops Q (o :: rest) a w := by
  refine wpListIn_plain hgd fun K hK' => ?_
  obtain ⟨v', w', hrun, r1, r2, r3, r4⟩ := run_append_rd (P := P) (w := w) base t o.type e i z size bytes ht hi hz hsize hby hzs hsz v n xs hown xv m news hrd h1 h63 hbytes hbase
  unfold Oper.wpIn
  refine ⟨?_, ?_⟩
  · simp [Oper.about, ho, resolve, Target.leads, Sem.run_pure]
  · rw [Oper.semAt_plain F _ _ (by rw [ho]; intro c hc'; cases hc')]
    simp [execOp, ho, resolve, invoke, builtin, hs, hx, hrun, Result.andThen]
    exact hK' _ _ (h v' w' r1 r2 r4)

theorem row_cells {w : World} {B e n k l : Nat} {v : Value} {xs : List Value} {o : Obj} (h : w.ownsRow B e 1 v n xs) (hk : v.ownBlock = some k) (hl : w.heap[l]? = some o) (ho : o.isCells = false) : k ≠ l := fun e' => by
  subst e'
  rcases h.2 with ⟨h1, _⟩ | ⟨g, cap, cur, h1, _, h3, _⟩
  · rw [h1] at hk; cases hk
  · rw [h1] at hk
    simp only [Value.ownBlock, Option.some.injEq] at hk
    subst hk
    rw [h3] at hl
    simp only [Option.some.injEq] at hl
    subst hl
    cases ho
theorem row_two {w : World} {B e e' n n' k : Nat} {v v' : Value} {xs xs' : List Value} (h : w.ownsRow B e 1 v n xs) (h' : w.ownsRow B e' 1 v' n' xs') (he : e' ≠ e) (hk : v.ownBlock = some k) (hk' : v'.ownBlock = some k) : False := by
  rcases h.2 with ⟨h1, _⟩ | ⟨g, cap, cur, h1, _, h3, _⟩
  · rw [h1] at hk; cases hk
  · rcases h'.2 with ⟨h1', _⟩ | ⟨g', cap', cur', h1', _, h3', _⟩
    · rw [h1'] at hk'; cases hk'
    · rw [h1] at hk; rw [h1'] at hk'
      simp only [Value.ownBlock, Option.some.injEq] at hk hk'
      subst hk; subst hk'
      rw [h3] at h3'
      simp only [Option.some.injEq, Obj.cells.injEq] at h3'
      exact he h3'.2.1.symm
structure NotesAt (B : Nat) (w : World) (v : Value) (xs : List (Value × List UInt8)) : Prop where
  row : w.ownsRow B 22 1 v xs.length (xs.map Prod.fst)
  ent : ∀ x ∈ xs, w.ownsRow B 5 1 x.1 x.2.length (bcells x.2)
def TrI (B h rB : Nat) (W5 : World) (pre : List (Value × List UInt8)) (W : World) : Prop := ∃ v, W.heap[h]? = some (.cells #[v] 42) ∧ NotesAt B W v pre ∧ Chg [h, rB] [] W5 W
theorem NotesAt.same {B : Nat} {w w' : World} {v : Value} {xs : List (Value × List UInt8)} (h : NotesAt B w v xs) (hk : ∀ k o, B ≤ k → w.heap[k]? = some o → o.isCells = true → w'.heap[k]? = w.heap[k]?) : NotesAt B w' v xs := by
  have key : ∀ {e : TypeId} {n : Nat} {u : Value} {l : List Value}, w.ownsRow B e 1 u n l → w'.ownsRow B e 1 u n l := fun hr => ownsRow_same hr fun k hkk => by
    rcases hr.2 with ⟨h1, _⟩ | ⟨g, cap, cur, h1, h2, h3, _⟩
    · rw [h1] at hkk; cases hkk
    · rw [h1] at hkk
      simp only [Value.ownBlock, Option.some.injEq] at hkk
      subst hkk
      exact hk g _ h2 h3 rfl
  exact ⟨key h.row, fun x hx => key (h.ent x hx)⟩
theorem TrI.turn {B h rB : Nat} {W5 W W' : World} {L : List (Value × List UInt8)} {row : Option Nat} (hI : TrI B h rB W5 L W) (hg : W.grownBy W' row) (hB : W5.heap.size ≤ B) (hr : ∀ r, row = some r → B ≤ r ∧ ∃ o : Obj, W.heap[r]? = some o ∧ o.isCells = false) : TrI B h rB W5 L W' := by
  obtain ⟨v, h1, h2, h3⟩ := hI
  have hr' := fun r e => (hr r e).2
  refine ⟨v, (grownBy_keeps_cells hg hr' h1 rfl).trans h1, h2.same fun k o _ ho hc => grownBy_keeps_cells hg hr' ho hc, ?_⟩
  exact ⟨hg.os.trans h3.os, hg.tape.trans h3.tape, hg.output.trans h3.output, Nat.le_trans h3.size hg.size, fun k hk hn => (hg.block k (Nat.lt_of_lt_of_le hk h3.size) (fun e => by have := (hr k e.symm).1; omega)).trans (h3.block k hk hn), h3.fresh⟩
theorem TrI.step {B h rB : Nat} {W5 W W' : World} {L : List (Value × List UInt8)} (hI : TrI B h rB W5 L W) (hst : TnSt rB W W') (hB : rB < B) (hn : h ≠ rB) : TrI B h rB W5 L W' := by
  obtain ⟨u, h1, h2, h3⟩ := hI
  refine ⟨u, (hst.block h (Array.getElem?_eq_some_iff.1 h1).1 (by simpa using hn)).trans h1, h2.same fun k o hk ho _ => hst.block k (Array.getElem?_eq_some_iff.1 ho).1 (by simp; omega), ?_⟩
  exact ⟨hst.os.trans h3.os, hst.tape.trans h3.tape, hst.output.trans h3.output, Nat.le_trans h3.size hst.size, fun k hk hk2 => (hst.block k (Nat.lt_of_lt_of_le hk h3.size) (fun e => hk2 (by simp at e; simp [e]))).trans (h3.block k hk hk2), h3.fresh⟩
theorem sl8_info : (Tryz.prog.info? 22).map (fun i => (i.zero, i.size, i.bytes)) = some (some (.slice none 0 0), 1, 24) := by kernel_rfl

set_option maxRecDepth 100000 in
set_option maxHeartbeats 6400000 in
theorem tp_Read (b : List UInt8) (ao : Option Addr) (n0 c : Nat) (w : World) (hn0 : n0 = b.length) (hx : RdB w (.slice ao n0 c) b) (hle : n0 ≤ c) (hc : c ≤ 9223372036854775807) (hlen : n0 ≤ 1048576) (hlt : ∀ k, (Value.slice ao n0 c).ownBlock = some k → k < w.heap.size) :
    Calls Tryz.prog 46 #[.slice ao n0 c] w fun e w' => ∃ a cc xs, e = .returned (.tuple #[.slice a xs.length cc, .int .i64 (tpRead b).2]) ∧ NotesAt w.heap.size w' (.slice a xs.length cc) xs ∧ xs.map Prod.snd = (tpRead b).1 ∧ Below w.heap.size w w' := by
  obtain ⟨iS, hiS, hyS0, hyS1, hyS2⟩ := info_parts sl8_info
  have HN0 := hide hn0
  clear hn0
  refine (callsIn_wide (n := 3)).1 ?_
  refine callsIn_of_wp_marks Tryz.func46 rfl trivial ?_ rfl
  simp only [Tryz.ntmps46, List.size_toArray, List.length_cons, List.length_nil, Nat.reduceAdd, Nat.reduceSub, Array.replicate_succ, Array.replicate_zero, List.push_toArray, List.append_toArray, List.nil_append, List.cons_append]
  gi_wp2
  obtain ⟨rB, hrB⟩ : ∃ rB, rB = w.heap.size := ⟨_, rfl⟩
  obtain ⟨W5, hW5⟩ : ∃ W5, W5 = (w.alloc (.cells #[.slice ao n0 c, .int .i64 0] 107)).alloc (.cells #[.slice none 0 0] 42) := ⟨_, rfl⟩
  have hsz : W5.heap.size = rB + 2 := by rw [hW5, hrB]; simp
  have k0 : W5.heap[rB]? = some (.cells #[.slice ao n0 c, .int .i64 0] 107 (0, 0)) := by
    rw [hW5, hrB]
    exact (Below.heap_alloc _ _ _ (by simp)).trans (heap_alloc_at w _)
  have k1 : W5.heap[rB + 1]? = some (.cells #[.slice none 0 0] 42) := by
    rw [hW5, hrB]
    have := heap_alloc_at (w.alloc (.cells #[.slice ao n0 c, .int .i64 0] 107)) (.cells #[.slice none 0 0] 42)
    simpa using this
  have hB5 : Below rB w W5 := by
    rw [hW5, hrB]
    exact ((Below.refl _ w).alloc (Nat.le_refl _) _).alloc (by simp) _
  rw [← hW5]
  simp only [← hrB]
  have hlt' : ∀ k, (Value.slice ao n0 c).ownBlock = some k → k < rB + 2 ∧ k ≠ rB + 1 ∧ k ≠ rB := fun k hk => by
    have := hlt k hk
    omega
  have hx5 : RdB W5 (.slice ao n0 c) b := hx.low (by rw [← hrB]; exact hB5)
  have HH := hide hrB
  have HSZ := hide hsz
  clear hW5
  refine wpIn_rangeFunc_sb (encs := fun x : Value × List UInt8 => #[x.1]) rfl (by omega) (gf := 66) (la := #[.pointer (some ⟨rB, 0, none⟩)]) (lb := #[]) rfl trivial (enters_of Tryz.func66 (by kernel_rfl) rfl) (fun _ => rfl)
    (TnOk b (rB + 2)) (TnKp (rB + 2) (rB + 1)) (TnSt rB) (fun xs => xs.map Prod.snd = (tpRead b).1) (fun W => W.cell? ⟨rB, 1, none⟩ = some (.int .i64 (tpRead b).2))
    (tp_iter (3 - 1) (by omega) b ao c (rB + 2) (rB + 1) rB W5 (by rw [← HN0.out]; exact k0) (by rw [← HN0.out]; exact hx5) (by rw [← HN0.out]; exact hle) hc (by rw [← HN0.out]; exact hlen) (by rw [← HN0.out]; exact hlt') (by omega) (by omega) (by omega))
    (fun X l o o' hX hl ho hc => (World.cell?_of_block (w := X) (a := ⟨rB, 1, none⟩) (World.putObj_heap_other (show rB ≠ l by omega))).trans hX)
    (fun h1 h2 => ⟨Nat.le_trans h1.1 h2.1, fun k hk hn => (h2.2 k hk hn).trans (h1.2 k hk hn)⟩)
    (fun W l o o' hl hl2 ho => ⟨by simp, fun k hk hn => World.putObj_heap_other (by omega)⟩)
    (fun pre W => TrI (rB + 2) (rB + 1) rB W5 pre W)
    (fun s X X' hs hst => hs.step hst (by omega) (by omega))
    (fun X X' hst => ⟨hst.size, fun k o hk ho hc => (hst.block k (Array.getElem?_eq_some_iff.1 ho).1 (by simp; omega)).trans ho⟩)
    (fun s X X' row hs hg hr => hs.turn hg (by omega) (fun r e => by have := hr r e; rw [hsz] at this; exact this))
    (fun s x X l o o' ⟨q1, q2, q3⟩ hl hl2 ho => ⟨ownsRow_same q1 (fun k hk => World.putObj_heap_other (row_cells q1 hk hl2 ho)), q2, q3⟩)
    ⟨_, k1, ⟨World.ownsRow_nil _ _ _ _, fun x hx => by cases hx⟩, ⟨rfl, rfl, rfl, Nat.le_refl _, fun _ _ _ => rfl, fun x hx => by cases hx⟩⟩
    (fun x => { tmps := #[.slice ao n0 c, undef, .slice none 0 0, .int .i64 0, .pointer (some ⟨rB, 0, none⟩), .pointer (some ⟨rB + 1, 0, none⟩), x.1, .slice ao n0 c, .agg #[.slice ao n0 c, .int .i64 0], .pointer (some ⟨rB, 0, none⟩), .pointer (some ⟨rB, 0, none⟩), .func (.func 66) #[.pointer (some ⟨rB, 0, none⟩)] #[], x.1, undef, undef, undef, undef, undef, undef, undef, undef, undef], defers := [] }) ?assign ?body ?done
  case assign =>
    clear hrB hsz
    intro l x W K hK
    gi_wp2
    exact hK
  case body =>
    rintro l pre x W ⟨v, c1, hat, hchg⟩ ⟨q1, q2, rr, q3⟩
    obtain ⟨xv, p⟩ := x
    dsimp only at q1 q2 q3 ⊢
    obtain ⟨ax, cx, rfl⟩ := (ownsRow_rd q1).head
    obtain ⟨av, cv, rfl⟩ := (ownsRow_rd hat.row).head
    obtain ⟨m, hm⟩ : ∃ m, m = pre.length := ⟨_, rfl⟩
    obtain ⟨pn, hpn⟩ : ∃ pn, pn = p.length := ⟨_, rfl⟩
    obtain ⟨f1, f2, f3⟩ := heapCell c1
    have hpl : pre.length ≤ 1048576 := by
      have h1 := (tpRead_le b.length b (Nat.le_refl _)).2.1
      rw [← q3, List.length_append, List.length_map] at h1
      have := HN0.out
      omega
    have hrow := hat.row
    rw [← hm] at hrow f1 c1 hpl
    rw [← hpn] at q1 ⊢
    have HM := hide hm; have HPN := hide hpn
    have HAT := hide hat
    have HROW := hide hrow
    clear hm hpn hrow
    have HCHG := hide hchg
    have Q1 := hide q1
    have C1 := hide c1
    clear hrB hsz q1 q2 q3 hlt hlt' hle hc hx hx5 hat hchg c1
    have hrow4 : Hid (∀ o, (W.alloc o).ownsRow (rB + 2) 22 1 (.slice av m cv) m (pre.map Prod.fst)) := hide fun o => HROW.out.alloc o
    have hrd4 := hide (rd_new W #[.slice ax pn cx] 22 1 1 (by decide) rfl)
    have hsz4 : rB + 2 ≤ W.heap.size := by have := HCHG.out.size; have := HSZ.out; omega
    gi_wp2_with (gi_at_builtin; refine wpListIn_append_gen rfl _ _ 42 rfl (rB + 2) 22 iS (.slice none 0 0) 1 24 Tryz.underlying42 hiS hyS0 hyS1 hyS2 rfl (by decide) _ m _ rfl (hrow4.out _) _ 1 [.slice ax pn cx] rfl (by exact hrd4.out) (by simp [Value.oneCell']) (by unfold maxLen; omega) (by omega) (by simp; omega) ?_; intro v1 w1 hown1 hg1 hb1; obtain ⟨a1, co1, rfl⟩ := (ownsRow_rd hown1).head; have HO1 := hide hown1; have HG1 := hide hg1; have hbx := ((hg1.block (rB + 1) (by simp; omega) (fun e => by have := (HROW.out.lt _ e.symm).1; omega)).trans (Below.heap_alloc W _ _ f3)).trans C1.out; obtain ⟨e1, e2, e3⟩ := heapCell hbx; have HBX := hide hbx; clear hown1 hg1 hb1 hbx)
    have hI : TrI (rB + 2) (rB + 1) rB W5 (pre ++ [(.slice ax pn cx, p)]) (w1.setCell ⟨rB + 1, 0, none⟩ (.slice a1 (m + 1) co1)) := by
      have hkeep : ∀ {e n : Nat} {u : Value} {l : List Value}, e ≠ 22 → W.ownsRow (rB + 2) e 1 u n l → (w1.setCell ⟨rB + 1, 0, none⟩ (.slice a1 (m + 1) co1)).ownsRow (rB + 2) e 1 u n l := fun he hr => ownsRow_same hr fun k hk => by
        have h1 := hr.lt k hk
        have h2 : k ≠ rB + 1 := by omega
        rw [heap_set_ne h2, HG1.out.block k (by simp; omega) (fun e' => row_two HROW.out hr he e'.symm hk)]
        exact Below.heap_alloc W _ _ h1.2
      refine ⟨.slice a1 (m + 1) co1, ?_, ⟨?_, fun x hx => ?_⟩, ?_⟩
      · have := setCell_heap HBX.out 0 (.slice a1 (m + 1) co1)
        simpa using this
      · rw [List.length_append, List.map_append, ← HM.out]
        exact ownsRow_same HO1.out fun k hk => heap_set_ne (by have := (HO1.out.lt k hk).1; omega)
      · rcases List.mem_append.1 hx with hx | hx
        · exact hkeep (by decide) (HAT.out.ent x hx)
        · rw [List.mem_singleton] at hx
          subst hx
          have := hkeep (by decide) Q1.out
          rw [HPN.out] at this ⊢
          exact this
      · have h1 := HCHG.out
        have h2 := HG1.out
        refine ⟨h2.os.trans h1.os, h2.tape.trans h1.tape, h2.output.trans h1.output, by have := h2.size; have := h1.size; simp [World.setCell] at *; omega, fun k hk hn => ?_, fun k hk => by cases hk⟩
        have h3 : k ≠ rB + 1 := fun e => hn (by simp [e])
        rw [heap_set_ne h3, h2.block k (by have := h1.size; simp; omega) (fun e => by have := (HROW.out.lt _ e.symm).1; have := HSZ.out; omega), Below.heap_alloc W _ _ (by have := h1.size; omega)]
        exact h1.block k hk hn
    refine ⟨?_, ?_, hI⟩
    · rw [HSZ.out]
      refine ⟨by have := HG1.out.size; simp [World.setCell] at *; omega, fun k o hk ho hc => ?_⟩
      have h1 := (Array.getElem?_eq_some_iff.1 ho).1
      have h2 : k ≠ rB + 1 := by omega
      rw [heap_set_ne h2, HG1.out.block k (by simp; omega) (fun e' => (row_cells HROW.out e'.symm ho hc) rfl), Below.heap_alloc W _ _ h1]
      exact ho
    · refine ⟨by have := HG1.out.size; simp [World.setCell] at *; omega, fun k hk hn => ?_⟩
      rw [heap_set_ne hn, HG1.out.block k (by simp; omega) (fun e => by have := (HROW.out.lt _ e.symm).1; omega)]
      exact Below.heap_alloc W _ _ (by omega)
  case done =>
    rintro D xs W hD hS hF ⟨v, c1, hat, hchg⟩ hK
    obtain ⟨m, hm⟩ : ∃ m, m = xs.length := ⟨_, rfl⟩
    obtain ⟨av, cv, rfl⟩ := (ownsRow_rd hat.row).head
    rw [← hm] at c1
    obtain ⟨f1, f2, f3⟩ := heapCell c1
    have HM := hide hm; have HAT := hide hat; have HCHG := hide hchg; have HK := hide hK; have HS := hide hS
    clear hrB hsz hm hat hchg hK hS hlt hlt' hle hc hx hx5
    gi_wp2_with fail
    refine wpIn_wide.2 ?_
    go_quiet (fail)
    go_wp2
    gi_wp2
    have hK1 : (W.drewN nq).heap[D]? = some (.deferred (some [])) := HK.out
    refine ⟨by simp, .inl ⟨_, _, rfl, run_takeDeferred hK1, ?_⟩⟩
    refine ⟨_, results_tmp2 rfl _ _ _, av, cv, xs, ?_, ?_, HS.out, ?_⟩
    · rw [← HM.out]
      rfl
    · have h1 := HAT.out
      have h2 : NotesAt (rB + 2) ((W.drewN nq).putObj D (.deferred none)) (.slice av xs.length cv) xs := h1.same fun k o _ ho hc => World.putObj_heap_other (fun e => by
        subst e
        have h3 := HK.out
        rw [ho] at h3
        simp only [Option.some.injEq] at h3
        subst h3
        cases hc)
      rw [← HH.out]
      exact ⟨ownsRow_base h2.row (by omega), fun x hx => ownsRow_base (h2.ent x hx) (by omega)⟩
    · rw [← HH.out]
      have h1 := HCHG.out
      have hs5 := HSZ.out
      refine ⟨h1.os.trans hB5.os, h1.tape.trans hB5.tape, h1.output.trans hB5.output, ?_, fun k hk => ?_⟩
      · have := h1.size
        have := hB5.size
        simp
        omega
      · refine (World.putObj_heap_other (by omega)).trans ((h1.block k (by omega) ?_).trans (hB5.block k hk))
        simp
        omega
end Go.Proofs.YtglgjakjhkdoaaaGreatDoor
