/-
  The document's file system: Crash.
-/
import Derived.Test.YtglgjakjhkdoaaaGreatDoorZRfK
import Derived.Deep.DeepCutAuto
namespace Go.Proofs.YtglgjakjhkdoaaaGreatDoor
open Go.RowKit Go.Maps
set_option linter.unusedVariables false
set_option linter.unusedSimpArgs false

theorem torn_off {torn last : Int} {i : Nat} {b : Bs} (h : ¬ ((i : Int) = last ∧ 0 ≤ torn ∧ torn < b.length)) : tornB torn last i b = b := by unfold tornB; rw [if_neg h]
theorem torn_on {torn last : Int} {i : Nat} {b : Bs} (h : (i : Int) = last ∧ 0 ≤ torn ∧ torn < b.length) : tornB torn last i b = b.take torn.toNat := by unfold tornB; rw [if_pos h]
theorem lastK_succ (K : List Bool) (i : Nat) : lastK K (i + 1) = if keptB K i then (i : Int) else lastK K i := rfl
structure CrIn (wr : World) (s : FsS) (K : List Bool) (torn : Int) (k : Bs) (e0 : Ent) (i : Nat) (ba : Option Addr) (bn bc : Nat) (wa : Option Addr) (wn wc : Nat) (w2 : World) : Prop where
  chg : Chg e0.v.ownBlock.toList [] wr w2
  bown : w2.ownsRow 0 5 1 (.slice ba bn bc) bn (bcells (crB s K torn k i))
  hbn : bn = (crB s K torn k i).length
  bblk : ∀ b, (Value.slice ba bn bc).ownBlock = some b → e0.v.ownBlock = some b ∨ wr.heap.size ≤ b
  wown : w2.ownsRow wr.heap.size 5 1 (.slice wa wn wc) wn (bcells (List.replicate wn 0))
  hwn : wn = crG s K torn k i
  ne : ∀ b, (Value.slice wa wn wc).ownBlock = some b → (Value.slice ba bn bc).ownBlock ≠ some b
theorem CrIn.low {wr : World} {s : FsS} {K : List Bool} {torn : Int} {k : Bs} {e0 : Ent} {i : Nat} {ba wa : Option Addr} {bn bc wn wc : Nat} {w2 w3 : World} (h : CrIn wr s K torn k e0 i ba bn bc wa wn wc w2) (hb : Below w2.heap.size w2 w3) : CrIn wr s K torn k e0 i ba bn bc wa wn wc w3 :=
  ⟨chg_low h.chg hb, ownsRow_below h.bown hb (Nat.le_refl _), h.hbn, h.bblk, ownsRow_below h.wown hb (Nat.le_refl _), h.hwn, h.ne⟩
theorem CrIn.step {wr : World} {s : FsS} {K : List Bool} {torn : Int} {k : Bs} {e0 : Ent} {i : Nat} {ba wa : Option Addr} {bn bc wn wc : Nat} {w2 : World} (h : CrIn wr s K torn k e0 i ba bn bc wa wn wc w2) (h1 : crB s K torn k (i + 1) = crB s K torn k i) (h2 : crG s K torn k (i + 1) = crG s K torn k i) : CrIn wr s K torn k e0 (i + 1) ba bn bc wa wn wc w2 :=
  ⟨h.chg, by rw [h1]; exact h.bown, by rw [h1]; exact h.hbn, h.bblk, h.wown, by rw [h2]; exact h.hwn, h.ne⟩
theorem CrIn.wait {wr : World} {s : FsS} {K : List Bool} {torn : Int} {k : Bs} {e0 : Ent} {i m n' : Nat} {ba wa ao : Option Addr} {bn bc wn wc co : Nat} {w2 w3 : World} (h : CrIn wr s K torn k e0 i ba bn bc wa wn wc w2) (h1 : crB s K torn k (i + 1) = crB s K torn k i) (h2 : crG s K torn k (i + 1) = crG s K torn k i + m)
    (hn' : n' = wn + m) (ho : w3.ownsRow wr.heap.size 5 1 (.slice ao n' co) n' (bcells (List.replicate wn 0 ++ List.replicate m 0))) (hg : w2.grownBy w3 (Value.slice wa wn wc).ownBlock) (hb : (Value.slice ao n' co).ownBlock = (Value.slice wa wn wc).ownBlock ∨ (Value.slice ao n' co).ownBlock = some w2.heap.size) : CrIn wr s K torn k e0 (i + 1) ba bn bc ao n' co w3 := by
  have hsz := h.chg.size
  subst hn'
  refine ⟨chg_grown h.chg hg fun x hx => .inr (h.wown.lt x hx).1, ?_, by rw [h1]; exact h.hbn, h.bblk, ?_, by rw [h2, h.hwn], fun b hb' hc => ?_⟩
  · rw [h1]
    exact ownsRow_same h.bown fun b hb' => hg.block b (h.bown.lt b hb').2 fun e => h.ne b e.symm hb'
  · rw [List.replicate_append_replicate] at ho
    exact ho
  · rcases hb with hb | hb
    · exact h.ne b (hb.symm.trans hb') hc
    · have := hb.symm.trans hb'
      simp only [Option.some.injEq] at this
      have := (h.bown.lt b hc).2
      omega
theorem CrIn.laid {wr : World} {s : FsS} {K : List Bool} {torn : Int} {k : Bs} {e0 : Ent} {i : Nat} {ba wa b1 b2 : Option Addr} {bn bc wn wc n1 c1 n2 c2 : Nat} {w2 w3 w4 : World} {P : Bs} (h : CrIn wr s K torn k e0 i ba bn bc wa wn wc w2) (h1 : crB s K torn k (i + 1) = crB s K torn k i ++ List.replicate (crG s K torn k i) 0 ++ P) (h2 : crG s K torn k (i + 1) = 0)
    (hg : w2.grownBy w3 (Value.slice ba bn bc).ownBlock) (hb : (Value.slice b1 n1 c1).ownBlock = (Value.slice ba bn bc).ownBlock ∨ (Value.slice b1 n1 c1).ownBlock = some w2.heap.size)
    (ho : w4.ownsRow 0 5 1 (.slice b2 n2 c2) n2 (bcells (crB s K torn k i ++ List.replicate wn 0 ++ P))) (hn2 : n2 = (crB s K torn k i ++ List.replicate wn 0 ++ P).length) (hg2 : w3.grownBy w4 (Value.slice b1 n1 c1).ownBlock) (hb2 : (Value.slice b2 n2 c2).ownBlock = (Value.slice b1 n1 c1).ownBlock ∨ (Value.slice b2 n2 c2).ownBlock = some w3.heap.size) : CrIn wr s K torn k e0 (i + 1) b2 n2 c2 none 0 0 w4 := by
  have hsz := h.chg.size
  have hX : ∀ x, (Value.slice ba bn bc).ownBlock = some x → x ∈ e0.v.ownBlock.toList ∨ wr.heap.size ≤ x := fun x hx => (h.bblk x hx).imp (fun e => by simpa using e) id
  have hX1 : ∀ x, (Value.slice b1 n1 c1).ownBlock = some x → x ∈ e0.v.ownBlock.toList ∨ wr.heap.size ≤ x := fun x hx => by
    rcases hb with hb | hb
    · exact hX x (hb.symm.trans hx)
    · have := hb.symm.trans hx
      simp only [Option.some.injEq] at this
      exact .inr (by omega)
  have hc3 := chg_grown h.chg hg hX
  have hc4 := chg_grown hc3 hg2 hX1
  have hs3 := hc3.size
  rw [h.hwn] at ho hn2
  refine ⟨hc4, by rw [h1]; exact ho, by rw [h1]; exact hn2, fun b hb' => ?_, World.ownsRow_nil _ _ _ _, by rw [h2], fun b hb' => by cases hb'⟩
  rcases hb2 with hb2 | hb2
  · exact (hX1 b (hb2.symm.trans hb')).imp (fun e => by simpa using e) id
  · have := hb2.symm.trans hb'
    simp only [Option.some.injEq] at this
    exact .inr (by omega)

theorem wpList_copy_n {P : Program} {w : World} {a : Act} {o : Oper} {Q : Exit → Act → World → Prop} {ops : Array Oper} {rest : List Oper} (hgd : o.guard = none) (s x : Operand) (t : TypeId)
    (ho : o.op = .call { callee := .builtin .append, args := #[s, x], argTypes := #[t, t] })
    (base : Nat) (e : TypeId) (ht : P.underlying t = some (.slice e)) (hinfo : (P.info? e).map (fun i => (i.zero, i.size, i.bytes)) = some (some (.int .u8 0), 1, 1))
    (v : Value) (n : Nat) (l0 : List UInt8) (hs : a.eval s = v) (hown : w.ownsRow base e 1 v n (bcells l0)) (hn : n = l0.length)
    (xv : Value) (l : List UInt8) (hx : a.eval x = xv) (hrd : RdB w xv l) (hl : n + l.length ≤ 70368744177664) (hbase : base ≤ w.heap.size)
    (h : ∀ ao co n' w', n' = n + l.length → w'.ownsRow base e 1 (.slice ao n' co) n' (bcells (l0 ++ l)) → w.grownBy w' v.ownBlock → ((Value.slice ao n' co).ownBlock = v.ownBlock ∨ (Value.slice ao n' co).ownBlock = some w.heap.size) → wpList P ops Q rest (a.put o.dst (.slice ao n' co)) w') : wpList P ops Q (o :: rest) a w := by
  subst hn
  refine wpList_copy_rd hgd s x t ho base e ht hinfo v l0 hs hown xv l hx hrd hl hbase fun ao co w' h1 h2 h3 => h ao co _ w' rfl ?_ h2 h3
  rw [List.length_append] at h1
  exact h1
theorem wpList_zeros_n {P : Program} {w : World} {a : Act} {o : Oper} {Q : Exit → Act → World → Prop} {ops : Array Oper} {rest : List Oper} (hgd : o.guard = none) (s x : Operand) (t tn : TypeId)
    (ho : o.op = .call { callee := .builtin .append, args := #[s, x], argTypes := #[t, tn] })
    (base : Nat) (e : TypeId) (ht : P.underlying t = some (.slice e)) (htn : P.underlying tn = some (.int .i64)) (hinfo : (P.info? e).map (fun i => (i.zero, i.size, i.bytes)) = some (some (.int .u8 0), 1, 1))
    (v : Value) (n : Nat) (l0 : List UInt8) (hs : a.eval s = v) (hown : w.ownsRow base e 1 v n (bcells l0)) (hn : n = l0.length)
    (m : Nat) (hx : a.eval x = .int .i64 m) (hl : n + m ≤ 70368744177664) (hbase : base ≤ w.heap.size)
    (h : ∀ ao co n' w', n' = n + m → w'.ownsRow base e 1 (.slice ao n' co) n' (bcells (l0 ++ List.replicate m 0)) → w.grownBy w' v.ownBlock → ((Value.slice ao n' co).ownBlock = v.ownBlock ∨ (Value.slice ao n' co).ownBlock = some w.heap.size) → wpList P ops Q rest (a.put o.dst (.slice ao n' co)) w') : wpList P ops Q (o :: rest) a w := by
  subst hn
  refine wpList_append_zeros_rd hgd s x t tn ho base e ht htn hinfo v l0 hs hown m hx hl hbase fun ao co w' h1 h2 h3 => h ao co _ w' rfl ?_ h2 h3
  rw [List.length_append, List.length_replicate] at h1
  exact h1
theorem rdB_zeros {w : World} {B n c : Nat} {a : Option Addr} (h : w.ownsRow B 5 1 (.slice a n c) n (bcells (List.replicate n 0))) : RdB w (.slice a n c) (List.replicate n 0) := by
  have h1 := ownsRow_rd h
  unfold RdB
  rw [List.length_replicate]
  exact h1
theorem RfIn.apart {w : World} {rb : Nat} {s : FsS} {fa pa : Option Addr} {fc pc : Nat} {lv : Int} {E L : List (Bs × Ent)} {j : Nat} {k : Bs} {e0 : Ent} (h : RfIn w rb s fa fc pa pc lv E L) (hp : E[j]? = some (k, e0)) {q : Bs × Ent} (hq : q ∈ L) : ∀ b, q.2.v.ownBlock = some b → e0.v.ownBlock ≠ some b ∧ b < w.heap.size := fun b hb => by
  have hnd := h.ex
  rw [ebs_append] at hnd
  obtain ⟨_, _, n5⟩ := List.nodup_append.1 hnd
  exact ⟨fun e => n5 b (mem_ebs.2 ⟨(k, e0), List.mem_of_getElem? hp, e⟩) b (mem_ebs.2 ⟨q, hq, hb⟩) rfl, (h.ent q (List.mem_append_right _ hq)).lt hb⟩
theorem crash_closeR {w0 w : World} {rb : Nat} {s s' : FsS} {fa pa : Option Addr} {fc pc : Nat} {lv : Int} {E L : List (Bs × Ent)} {F0 : List Nat} (h : RfIn w rb s fa fc pa pc lv E L) (hC : Chg F0 (rfBl rb fa pa E L) w0 w)
    (hr : s'.room = s.room) (hh : s'.halted = false) (hl : s'.left = none) (hf : s'.files = s.files) (hw : s'.waits = []) :
    RfTo w0 rb F0 s' (((w.setCell ⟨rb, 2, none⟩ (.slice none 0 0)).setCell ⟨rb, 3, none⟩ (.bool false)).setCell ⟨rb, 5, none⟩ (.bool false)) := by
  obtain ⟨n1, n2, n3⟩ := h.ne
  have hb : ∀ k, k ≠ rb → (((w.setCell ⟨rb, 2, none⟩ (.slice none 0 0)).setCell ⟨rb, 3, none⟩ (.bool false)).setCell ⟨rb, 5, none⟩ (.bool false)).heap[k]? = w.heap[k]? := fun k hk => by rw [heap_set_ne hk, heap_set_ne hk, heap_set_ne hk]
  have hrbm : rb ∈ rfBl rb fa pa E L := by rw [rfBl_G0]; exact List.mem_append_left _ (by rw [mem_G0]; exact .inl rfl)
  refine ⟨_, ⟨fa, fc, none, 0, lv, E, [], ⟨?_, ownsRow_same h.frow fun b hb' => hb b fun e => n1 (e ▸ hb'), World.ownsRow_nil _ _ _ _, fun p hp => ?_, ?_, fun n hn => (by rw [hl] at hn; cases hn), hf.trans h.files, hw, h.rise⟩, rfl⟩, hC.os, hC.tape, hC.output, by simpa [World.setCell] using hC.size, fun k hk hn => ?_, fun k hk => ?_⟩
  · have h1 := setCell_heap h.blk 2 (.slice none 0 0)
    have h2 := setCell_heap h1 3 (.bool false)
    have h3 := setCell_heap h2 5 (.bool false)
    rw [hr, hh, hl]
    simpa using h3
  · have hp' : p ∈ E ++ L := List.mem_append_left _ (by simpa using hp)
    exact (h.ent p hp').same fun k hk => hb k fun e => n3 p hp' (e ▸ hk)
  · exact (ebs_sub (by simp : (E ++ []).Sublist (E ++ L))).nodup h.ex
  · rw [hb k fun e => by
      subst e
      rcases hC.fresh k hrbm with h1 | h1
      · exact hn h1
      · omega]
    exact hC.block k hk hn
  · refine hC.fresh k ?_
    rw [rfBl_G0] at hk ⊢
    rcases List.mem_append.1 hk with hk | hk
    · rw [mem_G0] at hk
      rcases hk with hk | hk | hk
      · exact List.mem_append_left _ (by rw [mem_G0]; exact .inl hk)
      · exact List.mem_append_left _ (by rw [mem_G0]; exact .inr (.inl hk))
      · cases hk
    · exact List.mem_append_right _ ((ebs_sub (by simp : (E ++ []).Sublist (E ++ L))).subset hk)

set_option maxRecDepth 100000 in
set_option maxHeartbeats 3200000 in
theorem rf_Crash (rb : Nat) (s : FsS) (F : List Nat) (ka : Option Addr) (kn kc : Nat) (torn : Int) (K : List Bool) (w : World) (h : RfRep w rb s F) (ok : s.Ok) (hx : RdK w (.slice ka kn kc) K) (hn : kn = K.length) (hl : kn ≤ 1048576) (hd : 0 < kn → ∀ k, (Value.slice ka kn kc).ownBlock = some k → k ∉ F)
    (ht0 : -9223372036854775808 ≤ torn) (ht1 : torn ≤ 9223372036854775807) :
    Calls Tryz.prog 37 #[.pointer (some ⟨rb, 0, none⟩), .agg #[.slice ka kn kc, .int .i64 torn]] w fun e w' => e = .returned (.tuple #[]) ∧ RfTo w rb F (fsCrash s K torn) w' := by
  have OK := hide ok
  have HN := hide hn
  have HD := hide hd
  obtain ⟨fa, fc, pa, pc, lv, E, L, h, rfl⟩ := h
  obtain ⟨m, hm⟩ : ∃ m, m = L.length := ⟨_, rfl⟩
  obtain ⟨n, hnn⟩ : ∃ n, n = E.length := ⟨_, rfl⟩
  have hLl : m = s.waits.length := by rw [hm, h.waits, List.length_map]
  have hEl : n = s.files.length := by rw [hnn, h.files, List.length_map]
  have hml : m ≤ 1048576 := by rw [hm]; exact (h.short ok).2.1
  have hnl : n ≤ 8 := by rw [hnn]; exact (h.short ok).1
  obtain ⟨wB, hwB⟩ : ∃ wB, wB = w.alloc (.cells #[.slice ka kn kc, .int .i64 torn] 45) := ⟨_, rfl⟩
  have hbB : Below w.heap.size w wB := by rw [hwB]; exact below_alloc _ _
  have hsz : wB.heap.size = w.heap.size + 1 := by rw [hwB]; simp
  have hbx : wB.heap[w.heap.size]? = some (.cells #[.slice ka kn kc, .int .i64 torn] 45 (0, 0)) := by rw [hwB]; exact heap_alloc_at _ _
  have HK := hide (hx.low hbB)
  have HBB := hide hbB
  have HIN := hide (h.low hbB)
  have HNF := hide (show w.heap.size ∉ rfBl rb fa pa E L from fun hm => by have := h.lt _ hm; omega)
  have HRIS : Hid (Rises s.files) := hide (by rw [h.files]; unfold Rises; rw [List.pairwise_map]; exact h.rise)
  have HM := hide hm; have HNN := hide hnn; have HLL := hide hLl; have HEL := hide hEl
  have HSZ := hide hsz
  -- what is behind so much of it
  have hbc : Hid (∀ W F1, Chg (rfBl rb fa pa E L) F1 wB W → W.cell? ⟨w.heap.size, 0, none⟩ = some (.slice ka kn kc) ∧ W.cell? ⟨w.heap.size, 1, none⟩ = some (.int .i64 torn) ∧ RdK W (.slice ka kn kc) K) := hide fun W F1 hW => by
    have h1 : W.heap[w.heap.size]? = some (.cells #[.slice ka kn kc, .int .i64 torn] 45 (0, 0)) := (hW.block _ (by omega) HNF.out).trans hbx
    refine ⟨by simp [World.cell?, h1], by simp [World.cell?, h1], HK.out.chg0 hn hW hd⟩
  obtain ⟨F0, hF0⟩ : ∃ F0, F0 = rfBl rb fa pa E L := ⟨_, rfl⟩
  have HF0 := hide hF0
  have HCRE : Hid (∀ j w', RfIn w' rb { s with files := crF s K torn j } fa fc pa pc lv E L → True) := hide fun _ _ _ => trivial
  clear HCRE h ok hn hx hbB hbx hm hnn hLl hEl hsz hd hF0
  obtain ⟨la, hla⟩ : ∃ la, la = lastK K m := ⟨_, rfl⟩
  have HLA := hide hla
  clear hla
  go_enter Tryz.func37, Tryz.ntmps37
  go_upto_region 1 with fail
  rw [← hwB]
  clear hwB
  go_upto_block 0 with fail
  go_cut [4] (fun lv wx => lv = .int .i64 la ∧ Hid (Below wB.heap.size wB wx))
  case first =>
    go_wp2_with fail
    go_loopw [4, 5] (fun lv iv wr => ∃ i : Nat, lv = .int .i64 (lastK K i) ∧ iv = .int .i64 i ∧ i ≤ m ∧ Hid (Below wB.heap.size wB wr)) (fun _ iv _ => match iv with | .int _ t => m - t.toNat | _ => 0)
    case atStart => exact ⟨0, rfl, rfl, Nat.zero_le _, hide (Below.refl _ _)⟩
    case round =>
      obtain ⟨i, rfl, rfl, hi, hbw⟩ := hrel
      obtain ⟨e0, e1, e2⟩ := hbc.out wr _ (Chg.of_below (F := rfBl rb fa pa E L) hbw.out)
      have HE2 := hide e2
      have f1 := (rf_cells (HIN.out.low hbw.out).blk).2.2.1
      rw [← HM.out] at f1
      clear e2
      by_cases hil : i < m
      · have hd1 : decide ((i : Int) < m) = true := by simpa using hil
        have hwi : IntKind.i64.wrap ((i : Int) + 1) = (i : Int) + 1 := wrap64 (by omega) (by omega)
        have hst := hide (lastK_succ K i)
        obtain ⟨lk, hlk⟩ : ∃ lk, lk = lastK K i := ⟨_, rfl⟩
        rw [← hlk] at hst ⊢
        clear hlk
        go_wp2_with fail
        refine (rf_kept ka kn kc torn K i wr HE2.out HN.out hl (by omega)).mono ?_
        rintro e w1 ⟨rfl, hb1⟩
        have HB1 := hide (hbw.out.trans (hb1.mono hbw.out.size))
        clear hb1 f1 e0 e1
        cases hk : keptB K i with
        | false =>
          have hst2 : Hid (lastK K (i + 1) = lk) := hide (by rw [hst.out, hk]; rfl)
          clear hk hst
          go_wp2
          refine ⟨⟨i + 1, by rw [hst2.out], by simp, hil, HB1⟩, ?_⟩
          show m - ((i : Int) + 1).toNat < m - ((i : Nat) : Int).toNat
          omega
        | true =>
          have hst2 : Hid (lastK K (i + 1) = i) := hide (by rw [hst.out, hk]; rfl)
          clear hk hst
          go_wp2
          refine ⟨⟨i + 1, by rw [hst2.out], by simp, hil, HB1⟩, ?_⟩
          show m - ((i : Int) + 1).toNat < m - ((i : Nat) : Int).toNat
          omega
      · have hin : Hid (i = m) := hide (by omega)
        have hd1 : decide ((i : Int) < m) = false := decide_eq_false (by omega)
        go_wp2
        go_meet
        exact ⟨by rw [HLA.out, hin.out], hbw⟩
  case rest =>
    obtain ⟨rfl, hbw⟩ := hcut
    have hst : Hid (RfIn wc rb { s with files := crF s K torn 0 } fa fc pa pc lv E L ∧ Chg F0 (rfBl rb fa pa E L) wB wc ∧ n = E.length) := hide (by
      rw [crF_zero]
      exact ⟨HIN.out.low hbw.out, by rw [HF0.out]; exact Chg.of_below hbw.out, HNN.out⟩)
    clear hbw
    go_wp2_with fail
    go_loopw [6] (fun iv wr => ∃ (j : Nat) (E' : List (Bs × Ent)), iv = .int .i64 j ∧ j ≤ n ∧ Hid (RfIn wr rb { s with files := crF s K torn j } fa fc pa pc lv E' L ∧ Chg F0 (rfBl rb fa pa E' L) wB wr ∧ n = E'.length)) (fun iv _ => match iv with | .int _ t => n - t.toNat | _ => 0)
    case atStart => exact ⟨0, E, rfl, Nat.zero_le _, hst⟩
    case round =>
      clear hst
      obtain ⟨j, E', rfl, hj, hst⟩ := hrel
      have hEn := hide hst.out.2.2
      have f1 := (rf_cells hst.out.1.blk).2.1
      rw [← hEn.out] at f1
      by_cases hjn : j < n
      · have hd0 : decide ((j : Int) < n) = true := by simpa using hjn
        have hwj : IntKind.i64.wrap ((j : Int) + 1) = (j : Int) + 1 := wrap64 (by omega) (by omega)
        obtain ⟨p, hp⟩ : ∃ p, E'[j]? = some p := ⟨_, List.getElem?_eq_getElem (by have := hEn.out; omega)⟩
        obtain ⟨k, b0, ea, en, ec⟩ := p
        obtain ⟨g, rfl, c0, c1, hgl, cf⟩ := erow_get hst.out.1.frow rfl hp
        have hsf : s.files[j]? = some (k, b0) := by
          rw [← crF_at s K torn (by have := HEL.out; omega)]
          have h1 := hst.out.1.files
          simp only at h1
          rw [h1, List.getElem?_map, hp]
          rfl
        have hx0 : EX wr (⟨b0, ea, en, ec⟩ : Ent) := hst.out.1.ent _ (List.mem_append_left _ (List.mem_of_getElem? hp))
        have hb0 : crB s K torn k 0 = b0 := by
          rw [(crB_zero s K torn k).1, HRIS.out.get (List.mem_of_getElem? hsf)]
          rfl
        have hcr0 : Hid (CrIn wr s K torn k ⟨b0, ea, en, ec⟩ 0 ea en ec none 0 0 wr) := hide ⟨⟨rfl, rfl, rfl, Nat.le_refl _, fun _ _ _ => rfl, (fun x hx => by cases hx)⟩, by rw [hb0]; exact hx0.own, by rw [hb0]; exact hx0.n, fun b hb => .inl hb, World.ownsRow_nil _ _ _ _, rfl, fun b hb => by cases hb⟩
        have HP := hide hp
        have HSF := hide hsf
        have hXs : Hid (∀ x ∈ (⟨b0, ea, en, ec⟩ : Ent).v.ownBlock.toList, x ∈ rfBl rb (some ⟨g, 0, none⟩) pa E' L) := hide fun x hx => by
          rw [rfBl_G0]
          exact List.mem_append_right _ (mem_ebs.2 ⟨_, List.mem_append_left _ (List.mem_of_getElem? hp), by simpa using hx⟩)
        have hkl : k.length ≤ maxLen := by
          have h2 := OK.out.names (k, b0) (List.mem_of_getElem? hsf)
          unfold named at h2
          simp only [Bool.and_eq_true, decide_eq_true_eq] at h2
          unfold maxLen
          omega
        simp only at c0 c1
        clear hp hsf hx0 hb0 cf
        go_wp2_with fail
        clear f1 c0 c1 hgl
        obtain ⟨wo, hwo⟩ : ∃ wo, wo = wr := ⟨_, rfl⟩
        subst hwo
        go_loopw [7, 8, 9] (fun bv wv iv wr => ∃ (i : Nat) (ba wa : Option Addr) (bn bc wn wcp : Nat), bv = .slice ba bn bc ∧ wv = .slice wa wn wcp ∧ iv = .int .i64 i ∧ i ≤ m ∧ Hid (CrIn wo s K torn k ⟨b0, ea, en, ec⟩ i ba bn bc wa wn wcp wr)) (fun _ _ iv _ => match iv with | .int _ t => m - t.toNat | _ => 0)
        case atStart => exact ⟨0, ea, none, en, ec, 0, 0, rfl, rfl, rfl, Nat.zero_le _, hcr0⟩
        case round =>
          clear hcr0
          obtain ⟨i, ba, wa, bn, bc, wn, wcp, rfl, rfl, rfl, hi, hcr⟩ := hrel
          have hhole := hide (hst.out.1.hole HP.out hcr.out.chg)
          have f1 := (rf_cells hhole.out.1).2.1
          have f2 := (rf_cells hhole.out.1).2.2.1
          rw [← hEn.out] at f1
          rw [← HM.out] at f2
          obtain ⟨g', hg', c0, _, hgl, cf⟩ := erow_get hhole.out.2.1 rfl HP.out
          simp only [Option.some.injEq, Addr.mk.injEq, and_true] at hg'
          obtain rfl := hg'
          simp only at c0
          by_cases hil : i < m
          · have hd1 : decide ((i : Int) < m) = true := by simpa using hil
            have hwi : IntKind.i64.wrap ((i : Int) + 1) = (i : Int) + 1 := wrap64 (by omega) (by omega)
            obtain ⟨p, hp⟩ : ∃ p, L[i]? = some p := ⟨_, List.getElem?_eq_getElem (by have := HM.out; omega)⟩
            obtain ⟨g2, rfl, d0, d1, hg2, cf2⟩ := erow_get hhole.out.2.2.1 rfl hp
            have hxp := hide (hhole.out.2.2.2.1 p (List.mem_of_getElem? hp))
            have HPM := hide (List.mem_of_getElem? hp)
            have hwt : Hid (s.waits[i]? = some (p.1, p.2.b)) := hide (by
              have h1 := hst.out.1.waits
              simp only at h1
              rw [h1, List.getElem?_map, hp]
              rfl)
            obtain ⟨pk, pb, xa, xn, xc⟩ := p
            have hpl : pk.length ≤ maxLen := by
              have h2 := names_short OK.out (OK.out.piece _ (List.mem_of_getElem? hwt.out)).2
              simp only at h2
              unfold maxLen
              omega
            simp only at d0 d1
            clear hp cf2
            go_upto_region 16 with fail
            have HBA := hide (below_alloc wr (.cells #[.string ⟨pk.toArray⟩, .slice xa xn xc] 73))
            obtain ⟨W3, hW3⟩ : ∃ W3, W3 = wr.alloc (.cells #[.string ⟨pk.toArray⟩, .slice xa xn xc] 73) := ⟨_, rfl⟩
            have hat : W3.heap[wr.heap.size]? = some (.cells #[.string ⟨pk.toArray⟩, .slice xa xn xc] 73 (0, 0)) := by rw [hW3]; exact heap_alloc_at _ _
            have k0 : W3.cell? ⟨wr.heap.size, 0, none⟩ = some (.string ⟨pk.toArray⟩) ∧ W3.cell? ⟨wr.heap.size, 1, none⟩ = some (.slice xa xn xc) := by simp [World.cell?, hat]
            obtain ⟨k0, k1⟩ := k0
            rw [← hW3] at HBA ⊢
            have hr2 : rb < wr.heap.size := (rf_cells hhole.out.1).2.2.2.2.2.2.2
            have f1 := (HBA.out.cell (p := ⟨rb, 1, none⟩) hr2).trans f1
            have f2 := (HBA.out.cell (p := ⟨rb, 2, none⟩) hr2).trans f2
            have c0 := (HBA.out.cell (p := ⟨g, j * 2, none⟩) hgl).trans c0
            have HAT := hide hat
            clear hW3 hat d0 d1
            by_cases hpk : pk = k
            · subst hpk
              have hq : (pk != pk) = false := by simp
              have hq2 : (pk == pk) = true := by simp
              go_wp2_with fail
              go_quiet (fail)
              obtain ⟨W5, hW5⟩ : ∃ W5, W5 = W3.drewN nq := ⟨_, rfl⟩
              have hcr5 := hide (hcr.out.low (w3 := W5) (by rw [hW5]; exact below_drewN HBA.out))
              have hat5 : Hid (W5.heap[wr.heap.size]? = some (.cells #[.string ⟨pk.toArray⟩, .slice xa xn xc] 73 (0, 0))) := hide (by rw [hW5]; exact HAT.out)
              have hsz5 : Hid (wr.heap.size < W5.heap.size) := hide (Array.getElem?_eq_some_iff.1 hat5.out).1
              have hrd5 : Hid (RdB W5 (.slice xa xn xc) pb) := hide (hxp.out.rd.low (by rw [hW5]; exact below_drewN HBA.out))
              have hchg := HF0.out ▸ (hst.out.2.1.inner hcr5.out.chg hXs.out)
              obtain ⟨e0, e1, e2⟩ := hbc.out W5 _ hchg
              have HE2 := hide e2
              rw [← hW5]
              clear hW5 e2 hchg k0 k1 f1 f2 c0 HAT HBA hcr hd1
              go_wp2_with fail
              refine (rf_kept ka kn kc torn K i W5 HE2.out HN.out hl (by omega)).mono ?_
              rintro e w6 ⟨rfl, hb6⟩
              have hcr6 := hide (hcr5.out.low hb6)
              have hat6 : Hid (w6.heap[wr.heap.size]? = some (.cells #[.string ⟨pk.toArray⟩, .slice xa xn xc] 73 (0, 0))) := hide ((hb6.block _ hsz5.out).trans hat5.out)
              have hrd6 : Hid (RdB w6 (.slice xa xn xc) pb) := hide (hrd5.out.low hb6)
              have k1 : w6.cell? ⟨wr.heap.size, 1, none⟩ = some (.slice xa xn xc) := by simp [World.cell?, hat6.out]
              have hchg := HF0.out ▸ (hst.out.2.1.inner hcr6.out.chg hXs.out)
              obtain ⟨e0, e1, e2⟩ := hbc.out w6 _ hchg
              have hxl := hide hxp.out.n
              simp only at hxl
              have hle := hide (cr_le OK.out K torn pk (i + 1) (by have := HLL.out; omega))
              have hle0 := hide (cr_le OK.out K torn pk i (by have := HLL.out; omega))
              clear hb6 hchg e2 HE2 hcr5 hat5 hrd5 hsz5
              cases hk : keptB K i with
              | false =>
                have hlost := hide (cr_lost (torn := torn) hwt.out hk)
                simp only at hlost
                clear hk e0 e1
                go_wp2_with (at_builtin; refine wpList_zeros_n rfl (.tmp 73) (.tmp 76) 22 3 rfl wo.heap.size 5 Tryz.underlying22 Tryz.underlying3 (by kernel_rfl) (.slice wa wn wcp) wn (List.replicate wn 0) rfl hcr6.out.wown (by simp) xn rfl (by have := hle0.out; have := hcr6.out.hwn; have := hle.out; have := hlost.out; have := hxl.out; omega) hcr6.out.chg.size ?_; intro ao co n7 w7 hn7 ho7 hg7 hb7; have HN7 := hide hn7; have HO7 := hide ho7; have HG7 := hide hg7; have HB7 := hide hb7; clear hn7 ho7 hg7 hb7)
                refine ⟨⟨i + 1, ba, ao, bn, bc, n7, co, rfl, rfl, by simp, hil, hide ?_⟩, ?_⟩
                · have h2 := hlost.out.2
                  rw [← hxl.out] at h2
                  exact hcr6.out.wait hlost.out.1 h2 HN7.out HO7.out HG7.out HB7.out
                · show m - ((i : Int) + 1).toNat < m - ((i : Nat) : Int).toNat
                  omega
              | true =>
                have hkept := hide (cr_kept (torn := torn) hwt.out hk)
                simp only at hkept
                obtain ⟨tb, htb⟩ : ∃ tb, tb = tornB torn (lastK K s.waits.length) i pb := ⟨_, rfl⟩
                rw [← htb] at hkept
                have HTB := hide htb
                have hla2 : Hid (la = lastK K s.waits.length) := hide (by rw [HLA.out, HLL.out])
                clear hk htb
                go_upto_region 20 with fail
                go_cut [94] (fun v wx => v = .bool (decide ((i : Int) = la ∧ 0 ≤ torn ∧ torn < xn)) ∧ w6 = wx)
                case first =>
                  by_cases t1 : (i : Int) = la
                  · have t1' : ((i : Int) == la) = true := by simpa using t1
                    have T1 := hide t1
                    clear t1
                    by_cases t2 : 0 ≤ torn
                    · by_cases t3 : torn < xn
                      · go_wp2
                        go_meet
                        exact ⟨congrArg Value.bool (decide_eq_true (⟨T1.out, t2, t3⟩ : (i : Int) = la ∧ 0 ≤ torn ∧ torn < xn)).symm, rfl⟩
                      · go_wp2
                        go_meet
                        exact ⟨congrArg Value.bool (decide_eq_false (p := (i : Int) = la ∧ 0 ≤ torn ∧ torn < xn) fun h => by have := h.2.2; omega).symm, rfl⟩
                    · go_wp2
                      go_meet
                      exact ⟨congrArg Value.bool (decide_eq_false (p := (i : Int) = la ∧ 0 ≤ torn ∧ torn < xn) fun h => by have := h.2.1; omega).symm, rfl⟩
                  · have t1' : ((i : Int) == la) = false := by simpa using t1
                    have T1 := hide t1
                    clear t1
                    go_wp2
                    go_meet
                    exact ⟨congrArg Value.bool (decide_eq_false (p := (i : Int) = la ∧ 0 ≤ torn ∧ torn < xn) fun h => T1.out h.1).symm, rfl⟩
                case rest =>
                  obtain ⟨rfl, rfl⟩ := hcut
                  go_upto_if 94 with fail
                  go_cut [11] (fun v wx => ∃ n' : Nat, v = .slice xa n' xc ∧ w6 = wx ∧ Hid (RdB w6 (.slice xa n' xc) tb) ∧ Hid (n' = tb.length))
                  case first =>
                    by_cases hT : (i : Int) = la ∧ 0 ≤ torn ∧ torn < xn
                    · have hT' := hT
                      obtain ⟨t1, t2, t3⟩ := hT
                      have e : decide ((i : Int) = la ∧ 0 ≤ torn ∧ torn < xn) = true := decide_eq_true ⟨t1, t2, t3⟩
                      rw [e]
                      obtain ⟨mt, rfl⟩ : ∃ mt : Nat, torn = mt := ⟨torn.toNat, by omega⟩
                      have ht : Hid (tb = pb.take mt) := hide (by
                        rw [HTB.out, torn_on ⟨by rw [← hla2.out]; exact t1, t2, by rw [← hxl.out]; exact t3⟩]
                        rfl)
                      have hpc : xn ≤ xc := (ownsRow_cap hxp.out.own).1
                      have t4 : (mt : Int) ≤ xc := by omega
                      have hmp : mt ≤ xn := by omega
                      clear t1 e hT'
                      obtain ⟨pad, rfl⟩ : ∃ pad, xa = some pad := by
                        rcases hrd6.out.2 with ⟨he, hz⟩ | ⟨ad2, c2, he, _⟩
                        · simp only [Value.slice.injEq] at he
                          omega
                        · simp only [Value.slice.injEq] at he
                          exact ⟨ad2, he.1⟩
                      go_wp2
                      go_meet
                      refine ⟨mt, rfl, rfl, hide ?_, hide (by rw [ht.out, List.length_take, ← hxl.out]; omega)⟩
                      rw [ht.out]
                      exact hrd6.out.upto hxl.out mt xc mt (by rw [List.length_take, ← hxl.out]; omega)
                    · have e : decide ((i : Int) = la ∧ 0 ≤ torn ∧ torn < xn) = false := decide_eq_false hT
                      rw [e]
                      have ht : Hid (tb = pb) := hide (by
                        rw [HTB.out]
                        exact torn_off fun h => hT ⟨by rw [hla2.out]; exact h.1, h.2.1, by rw [hxl.out]; exact h.2.2⟩)
                      clear hT e
                      go_wp2
                      go_meet
                      exact ⟨xn, rfl, rfl, hide (by rw [ht.out]; exact hrd6.out), hide (by rw [ht.out]; exact hxl.out)⟩
                  case rest =>
                    obtain ⟨n', rfl, rfl, hr3, hnt⟩ := hcut
                    clear e0 e1 k1
                    have hbound : Hid (bn + wn + n' ≤ 1048576) := hide (by
                      have h1 := hle.out
                      rw [hkept.out.1] at h1
                      simp only [List.length_append, List.length_replicate] at h1
                      have := hcr6.out.hbn; have := hcr6.out.hwn; have := hnt.out
                      omega)
                    have hrz : Hid (RdB w6 (.slice wa wn wcp) (List.replicate wn 0)) := hide (rdB_zeros hcr6.out.wown)
                    have hfar : Hid (∀ b, (Value.slice xa n' xc).ownBlock = some b → (Value.slice ba bn bc).ownBlock ≠ some b ∧ b < w6.heap.size) := hide (fun b hb => by
                      have hob : (⟨pb, xa, xn, xc⟩ : Ent).v.ownBlock = some b := by rw [← hb]; exact ownBlock_sl xa xn xc n' xc
                      have h5 := hst.out.1.apart HP.out HPM.out b hob
                      refine ⟨fun e => ?_, Nat.lt_of_lt_of_le h5.2 hcr6.out.chg.size⟩
                      rcases hcr6.out.bblk b e with h6 | h6
                      · exact h5.1 h6
                      · omega)
                    go_upto_region 23 with (at_builtin; refine wpList_copy_n rfl (.tmp 99) (.tmp 100) 22 rfl 0 5 Tryz.underlying22 (by kernel_rfl) (.slice ba bn bc) bn (crB s K torn pk i) rfl hcr6.out.bown hcr6.out.hbn (.slice wa wn wcp) (List.replicate wn 0) rfl hrz.out (by have := hbound.out; simp; omega) (Nat.zero_le _) ?_; intro b1 c1 n1 w7 hn1 ho1 hg1 hb1; have HN1 := hide hn1; have HO1 := hide ho1; have HG1 := hide hg1; have HB1 := hide hb1; clear hn1 ho1 hg1 hb1)
                    have hrd7 : Hid (RdB w7 (.slice xa n' xc) tb) := hide (hr3.out.keep fun b hb => HG1.out.block b (hfar.out b hb).2 fun e => (hfar.out b hb).1 e.symm)
                    have hn1 : Hid (n1 = bn + wn) := hide (by have := HN1.out; rw [List.length_replicate] at this; exact this)
                    have hl1 : Hid (n1 = (crB s K torn pk i ++ List.replicate wn 0).length) := hide (by rw [List.length_append, List.length_replicate, ← hcr6.out.hbn]; exact hn1.out)
                    clear HN1
                    go_wp2_with (at_builtin; refine wpList_copy_n rfl (.tmp 102) (.tmp 103) 22 rfl 0 5 Tryz.underlying22 (by kernel_rfl) (.slice b1 n1 c1) n1 (crB s K torn pk i ++ List.replicate wn 0) rfl HO1.out hl1.out (.slice xa n' xc) tb rfl hrd7.out (by have := hbound.out; have := hn1.out; have := hnt.out; omega) (Nat.zero_le _) ?_; intro b2 c2 n2 w8 hn2 ho2 hg2 hb2; have HN2 := hide hn2; have HO2 := hide ho2; have HG2 := hide hg2; have HB2 := hide hb2; clear hn2 ho2 hg2 hb2)
                    refine ⟨⟨i + 1, b2, none, n2, c2, 0, 0, rfl, rfl, by simp, hil, hide ?_⟩, ?_⟩
                    · exact hcr6.out.laid hkept.out.1 hkept.out.2 HG1.out HB1.out HO2.out (by rw [HN2.out, hl1.out, ← List.length_append]) HG2.out HB2.out
                    · show m - ((i : Int) + 1).toNat < m - ((i : Nat) : Int).toNat
                      omega
            · have hq : (pk != k) = true := by simpa using hpk
              have hq2 : (pk == k) = false := by simpa using hpk
              have hoth := hide (cr_other (K := K) (torn := torn) hwt.out hpk)
              clear hpk
              go_wp2_with fail
              go_quiet (fail)
              have hcr2 : Hid (CrIn wo s K torn k ⟨b0, ea, en, ec⟩ (i + 1) ba bn bc wa wn wcp (W3.drewN nq)) := hide ((hcr.out.step hoth.out.1 hoth.out.2).low (below_drewN HBA.out))
              go_wp2
              refine ⟨⟨i + 1, ba, wa, bn, bc, wn, wcp, rfl, rfl, by simp, hil, hcr2⟩, ?_⟩
              show m - ((i : Int) + 1).toNat < m - ((i : Nat) : Int).toNat
              omega
          · have hin : Hid (i = s.waits.length) := hide (by have := HLL.out; omega)
            have hd1 : decide ((i : Int) < m) = false := decide_eq_false (by omega)
            have cf1 := cf (j * 2 + 1)
            clear c0 cf
            go_wp2
            have hxe : EX wr (⟨crB s K torn k s.waits.length, ba, bn, bc⟩ : Ent) := by
              have h1 := hcr.out.bown
              have h2 := hcr.out.hbn
              rw [hin.out] at h1 h2
              exact ⟨h1, h2⟩
            obtain ⟨q1, q2⟩ := hst.out.1.setC (s' := { s with files := crF s K torn (j + 1) }) (e := ⟨crB s K torn k s.waits.length, ba, bn, bc⟩) HP.out hcr.out.chg hxe hcr.out.bblk rfl rfl rfl rfl (crF_step HSF.out).symm
            refine ⟨⟨j + 1, _, by simp, hjn, hide ⟨q1, hst.out.2.1.trans q2, by rw [List.length_set]; exact hEn.out⟩⟩, ?_⟩
            show n - ((j : Int) + 1).toNat < n - ((j : Nat) : Int).toNat
            omega
      · have hjn2 : Hid (j = s.files.length) := hide (by have := HEL.out; omega)
        have hd0 : decide ((j : Int) < n) = false := decide_eq_false (by omega)
        obtain ⟨_, _, y2, y3, _, y5, z2, _⟩ := rf_cells hst.out.1.blk
        have z3 := z2 3
        have z5 := z2 5
        have z2 := z2 2
        go_wp2
        go_end0
        refine ⟨rfl, ?_⟩
        rw [← HF0.out]
        have hlow : Below w.heap.size w wB := HBB.out
        refine RfTo.after hlow (crash_closeR hst.out.1 hst.out.2.1 (s' := fsCrash s K torn) rfl rfl rfl ?_ rfl)
        show (fsCrash s K torn).files = crF s K torn j
        rw [hjn2.out, crF_all OK.out HRIS.out]
end Go.Proofs.YtglgjakjhkdoaaaGreatDoor
