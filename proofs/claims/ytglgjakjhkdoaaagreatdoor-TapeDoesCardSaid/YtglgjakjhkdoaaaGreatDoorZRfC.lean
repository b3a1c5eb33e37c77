/-
  The document's file system: Used, New, stopped, Halt, kept, named.
-/
import Derived.Test.YtglgjakjhkdoaaaGreatDoorZRfB
namespace Go.Proofs.YtglgjakjhkdoaaaGreatDoor
open Go.RowKit Go.Maps
set_option linter.unusedVariables false
set_option linter.unusedSimpArgs false

theorem sum_pieces : ∀ (L : List (Bs × Bs)) (W : List (Bs × Bs)), L.Pairwise (fun p q => p.1 ≠ q.1) → (∀ q ∈ W, ∃ p ∈ L, p.1 = q.1) → (L.map fun p => (pieces p.1 W).length).sum = total W
  | [], W, _, h => by
    cases W with
    | nil => rfl
    | cons q W => obtain ⟨p, hp, _⟩ := h q (by simp); cases hp
  | p :: L, W, hd, h => by
    obtain ⟨h1, h2⟩ := List.pairwise_cons.1 hd
    rw [List.map_cons, List.sum_cons, pieces_length, total_split p.1 W]
    congr 1
    rw [← sum_pieces L (forgotten p.1 W) h2 fun q hq => by
      unfold forgotten at hq
      obtain ⟨h3, h4⟩ := List.mem_filter.1 hq
      obtain ⟨x, hx, hxe⟩ := h q h3
      rcases List.mem_cons.1 hx with rfl | hx
      · simp [hxe] at h4
      · exact ⟨x, hx, hxe⟩]
    congr 1
    refine List.map_congr_left fun q hq => ?_
    unfold pieces forgotten
    rw [List.filter_filter]
    congr 2
    refine List.filter_congr fun x _ => ?_
    by_cases e : x.1 = q.1
    · have : x.1 ≠ p.1 := fun e2 => h1 q hq (by rw [← e2, e])
      simp [e, Ne.symm (h1 q hq)]
    · simp [e]
theorem total_fsFiles {s : FsS} (ok : s.OkB) (h : Rises s.files) : total (fsFiles s) = s.used := by
  have e1 := sum_pieces s.files s.waits h.ne fun q hq => by
    obtain ⟨_, h2⟩ := ok.piece q hq
    obtain ⟨v, hv⟩ := Option.isSome_iff_exists.1 h2
    exact ⟨_, mget_mem hv, rfl⟩
  unfold FsS.used
  rw [← e1]
  have : ∀ L : List (Bs × Bs), (∀ p ∈ L, mget p.1 s.files = some p.2) → total (L.map fun p => (p.1, s.get p.1)) = total L + (L.map fun p => (pieces p.1 s.waits).length).sum := by
    intro L
    induction L with
    | nil => intro _; rfl
    | cons p L ih =>
      intro hL
      rw [List.map_cons, total_cons, total_cons, List.map_cons, List.sum_cons, ih fun q hq => hL q (by simp [hq])]
      unfold FsS.get
      rw [hL p (by simp), List.length_append]
      simp
      omega
  exact this s.files fun p hp => h.get hp

set_option maxRecDepth 100000 in
set_option maxHeartbeats 1600000 in
theorem rf_UsedB (rb : Nat) (s : FsS) (F : List Nat) (w : World) (h : RfRep w rb s F) (ok : s.OkB) :
    Calls Tryz.prog 27 #[.pointer (some ⟨rb, 0, none⟩)] w fun e w' => e = .returned (.int .i64 s.used) ∧ Below w.heap.size w w' := by
  have hr : Rises s.files := by
    obtain ⟨fa, fc, pa, pc, lv, E, L, h, rfl⟩ := h
    rw [h.files]
    unfold Rises
    rw [List.pairwise_map]
    exact h.rise
  have htot := hide (total_fsFiles ok hr)
  have hul := hide ok.used_le
  have HF := hide (rf_FilesB rb s F w h ok)
  have hl8 : (fsFiles s).length ≤ 8 := by unfold fsFiles; rw [List.length_map]; exact ok.few
  obtain ⟨X, hX⟩ : ∃ X, X = fsFiles s := ⟨_, rfl⟩
  rw [← hX] at HF htot hl8
  obtain ⟨u, hu⟩ : ∃ u, u = s.used := ⟨_, rfl⟩
  rw [← hu] at htot hul ⊢
  obtain ⟨n, hn⟩ : ∃ n, n = X.length := ⟨_, rfl⟩
  rw [← hn] at hl8
  have HN := hide hn
  clear h ok hr hX hu hn
  go_enter Tryz.func27, Tryz.ntmps27
  go_wp2_with (refine HF.out.mono ?_; rintro e w1 ⟨a, c, L, rfl, hf, hct, hb⟩; rw [← HN.out] at hf ⊢; have HF2 := hide hf; have HCT := hide hct; have HB := hide hb; clear hf hct hb)
  have hLn : Hid (n = L.length) := hide (by have := congrArg List.length HCT.out; rw [List.length_map] at this; rw [HN.out, this])
  go_loopw [3, 5] (fun nv iv wr => ∃ (t i : Nat), nv = .int .i64 t ∧ iv = .int .i64 i ∧ i ≤ n ∧ Hid (t = total (X.take i)) ∧ w1 = wr) (fun _ iv _ => match iv with | .int _ j => n - j.toNat | _ => 0)
  case atStart => exact ⟨0, 0, rfl, rfl, Nat.zero_le _, hide (by simp [total]), rfl⟩
  case round =>
    obtain ⟨t, i, rfl, rfl, hi, ht, rfl⟩ := hrel
    by_cases hin : i < n
    · obtain ⟨g, k, x, pa, pn, pc, rfl, hp, c1, c2, hg, hfz, hr⟩ := HF2.out.get hLn.out hin
      have hd : decide ((i : Int) < n) = true := by simpa using hin
      have hxn : Hid (pn = x.length) := hide ((HF2.out.ent _ (List.mem_of_getElem? hp)).n)
      have hXi : X[i]? = some (k, x) := by rw [← HCT.out, List.getElem?_map, hp]; rfl
      have hst : Hid (t + pn = total (X.take (i + 1))) := hide (by
        rw [List.take_add_one, hXi, ht.out, hxn.out]
        simp [total])
      have hle : Hid (total (X.take (i + 1)) ≤ u) := hide (by rw [← htot.out]; exact total_take X (i + 1))
      have hw1 : IntKind.i64.wrap ((t : Int) + pn) = (t : Int) + pn := wrap64 (by omega) (by have := hst.out; have := hle.out; have := hul.out; omega)
      have hw2 : IntKind.i64.wrap ((i : Int) + 1) = (i : Int) + 1 := wrap64 (by omega) (by omega)
      clear hp hXi c1 hfz hr ht
      go_wp2
      refine ⟨⟨t + pn, i + 1, by simp, by simp, hin, hst, by first | trivial | rfl⟩, ?_⟩
      show n - ((i : Int) + 1).toNat < n - ((i : Nat) : Int).toNat
      omega
    · have hd : decide ((i : Int) < n) = false := decide_eq_false (by omega)
      have hend : Hid (t = u) := hide (by rw [ht.out, ← htot.out, List.take_of_length_le (by have := HN.out; omega)])
      go_wp2
      go_ret
      exact ⟨by rw [hend.out]; rfl, HB.out⟩

theorem rf_Used (rb : Nat) (s : FsS) (F : List Nat) (w : World) (h : RfRep w rb s F) (ok : s.Ok) :
    Calls Tryz.prog 27 #[.pointer (some ⟨rb, 0, none⟩)] w fun e w' => e = .returned (.int .i64 s.used) ∧ Below w.heap.size w w' := rf_UsedB rb s F w h ok.toB

theorem ownsRow_blk {w : World} {base e size n k : Nat} {v : Value} {xs : List Value} (h : w.ownsRow base e size v n xs) (hk : v.ownBlock = some k) : ∃ cur, w.heap[k]? = some (.cells cur e (0, 0)) := by
  rcases h.2 with ⟨h1, _⟩ | ⟨g, cap, cur, h1, _, h3, _⟩
  · rw [h1] at hk; cases hk
  · rw [h1] at hk
    simp only [Value.ownBlock, Option.some.injEq] at hk
    subst hk
    exact ⟨cur, h3⟩
theorem ownsRow_off {w : World} {base e size n k : Nat} {v : Value} {xs : List Value} (h : w.ownsRow base e size v n xs) {cs : Array Value} {t : TypeId} {z : Nat × Nat} (hb : w.heap[k]? = some (.cells cs t z)) (hne : e ≠ t) : v.ownBlock ≠ some k := fun hk => by
  obtain ⟨cur, h1⟩ := ownsRow_blk h hk
  rw [hb] at h1
  simp only [Option.some.injEq, Obj.cells.injEq] at h1
  exact hne h1.2.1.symm
theorem RfIn.ne {w : World} {rb : Nat} {s : FsS} {fa pa : Option Addr} {fc pc : Nat} {lv : Int} {E L : List (Bs × Ent)} (h : RfIn w rb s fa fc pa pc lv E L) :
    (Value.slice fa E.length fc).ownBlock ≠ some rb ∧ (Value.slice pa L.length pc).ownBlock ≠ some rb ∧ (∀ p ∈ E ++ L, p.2.v.ownBlock ≠ some rb) :=
  ⟨ownsRow_off h.frow h.blk (by decide), ownsRow_off h.prow h.blk (by decide), fun p hp => ownsRow_off (h.ent p hp).own h.blk (by decide)⟩
theorem RfIn.self {w w' : World} {rb : Nat} {s s' : FsS} {fa pa : Option Addr} {fc pc : Nat} {lv lv' : Int} {E L : List (Bs × Ent)} (h : RfIn w rb s fa fc pa pc lv E L)
    (hblk : w'.heap[rb]? = some (.cells #[.int .i64 s'.room, .slice fa E.length fc, .slice pa L.length pc, .bool s'.left.isSome, .int .i64 lv', .bool s'.halted] 63 (0, 0)))
    (hl : ∀ n, s'.left = some n → lv' = n) (hf : s'.files = s.files) (hw : s'.waits = s.waits) (ho : ∀ k, k ≠ rb → w'.heap[k]? = w.heap[k]?) : RfIn w' rb s' fa fc pa pc lv' E L := by
  obtain ⟨n1, n2, n3⟩ := h.ne
  exact ⟨hblk, ownsRow_same h.frow fun b hb => ho b fun e => n1 (e ▸ hb), ownsRow_same h.prow fun b hb => ho b fun e => n2 (e ▸ hb), fun p hp => (h.ent p hp).same fun k hk => ho k fun e => n3 p hp (e ▸ hk), h.ex, hl, hf.trans h.files, hw.trans h.waits, h.rise⟩
theorem RfIn.selfTo {w w' : World} {rb : Nat} {s s' : FsS} {fa pa : Option Addr} {fc pc : Nat} {lv lv' : Int} {E L : List (Bs × Ent)} (h : RfIn w rb s fa fc pa pc lv E L)
    (hblk : w'.heap[rb]? = some (.cells #[.int .i64 s'.room, .slice fa E.length fc, .slice pa L.length pc, .bool s'.left.isSome, .int .i64 lv', .bool s'.halted] 63 (0, 0)))
    (hl : ∀ n, s'.left = some n → lv' = n) (hf : s'.files = s.files) (hw : s'.waits = s.waits) (ho : ∀ k, k ≠ rb → w'.heap[k]? = w.heap[k]?) (hos : w'.os = w.os) (hta : w'.tape = w.tape) (hou : w'.output = w.output) (hs : w.heap.size ≤ w'.heap.size) : RfTo w rb (rfBl rb fa pa E L) s' w' :=
  ⟨_, ⟨fa, fc, pa, pc, lv', E, L, h.self hblk hl hf hw ho, rfl⟩, hos, hta, hou, hs, fun k _ hn => ho k fun e => hn (by simp [rfBl, e]), fun k hk => .inl hk⟩

set_option maxRecDepth 100000 in
set_option maxHeartbeats 1600000 in
theorem rf_stopped (rb : Nat) (s : FsS) (F : List Nat) (w : World) (h : RfRep w rb s F) (ok : s.Ok) :
    Calls Tryz.prog 25 #[.pointer (some ⟨rb, 0, none⟩)] w fun e w' => e = .returned (.bool (!s.go)) ∧ RfTo w rb F s.went w' := by
  have HREP := hide h
  obtain ⟨fa, fc, pa, pc, lv, E, L, h, rfl⟩ := h
  have HIN := hide h
  obtain ⟨c0, c1, c2, c3, c4, c5, cf, hrb⟩ := rf_cells h.blk
  cases hl : s.left with
  | none =>
    have e1 : s.go = true := by simp [FsS.go, hl]
    have e2 : s.went = s := by simp [FsS.went, hl]
    rw [e1, e2]
    rw [hl] at c3
    clear h c0 c1 c2 c4 c5 e1 e2 hl cf
    go_enter Tryz.func25, Tryz.ntmps25
    go_wp2
    go_ret
    exact ⟨rfl, RfTo.refl HREP.out⟩
  | some n =>
    obtain ⟨n0, n1⟩ := ok.left0 n hl
    have hlv : lv = n := h.left n hl
    subst hlv
    rw [hl] at c3
    by_cases hz : lv = 0
    · subst hz
      have e1 : s.go = false := by simp [FsS.go, hl]
      have e2 : s.went = { s with halted := true } := by simp [FsS.went, hl]
      rw [e1, e2]
      have f5 := cf 5
      have HL := hide hl
      clear h c0 c1 c2 e1 e2 hl cf
      go_enter Tryz.func25, Tryz.ntmps25
      go_wp2
      go_ret
      refine ⟨rfl, HIN.out.selfTo (s' := { s with halted := true }) (lv' := 0) ?_ (fun n hn => by have := HL.out; simp only at hn; rw [this] at hn; simpa using hn) rfl rfl (fun k hk => heap_set_ne hk) rfl rfl rfl (by simp [World.setCell])⟩
      have := setCell_heap HIN.out.blk 5 (.bool true)
      simpa using this
    · have e1 : s.go = true := by simp [FsS.go, hl, hz]
      have e2 : s.went = { s with left := some (lv - 1) } := by simp [FsS.went, hl, hz]
      rw [e1, e2]
      have f4 := cf 4
      have HL := hide hl
      have i1 : IntKind.i64.wrap (lv - 1) = lv - 1 := wrap64 (by omega) (by omega)
      have d1 : decide ((0 : Int) < lv) = true := decide_eq_true (by omega)
      clear h c0 c1 c2 c5 e1 e2 hl cf
      go_enter Tryz.func25, Tryz.ntmps25
      go_wp2
      go_ret
      refine ⟨rfl, HIN.out.selfTo (s' := { s with left := some (lv - 1) }) (lv' := lv - 1) ?_ (fun n hn => by simpa using hn) rfl rfl (fun k hk => heap_set_ne hk) rfl rfl rfl (by simp [World.setCell])⟩
      have := setCell_heap HIN.out.blk 4 (.int .i64 (lv - 1))
      rw [HL.out] at this
      simpa using this

theorem rf_New (room : Int) (h0 : 0 ≤ room) (h1 : room ≤ 1048576) (w : World) : Calls Tryz.prog 7 #[.int .i64 room] w fun e w' => ∃ rb F, e = .returned (.pointer (some ⟨rb, 0, none⟩)) ∧ RfRep w' rb (fsNew room) F ∧ (∀ k ∈ F, w.heap.size ≤ k) ∧ Below w.heap.size w w' := by
  have i0 : ¬ (room < 0) := by omega
  have i1 : ¬ (1048576 < room) := by omega
  go_enter Tryz.func7, Tryz.ntmps7
  go_wp2
  go_ret
  refine ⟨w.heap.size, rfl, _, ⟨none, 0, none, 0, 0, [], [], ⟨heap_alloc_at _ _, World.ownsRow_nil _ _ _ _, World.ownsRow_nil _ _ _ _, (fun p hp => by cases hp), by simp [ebs], (fun n hn => by cases hn), rfl, rfl, .nil⟩, rfl⟩, ?_, below_alloc _ _⟩
  intro k hk
  simp [rfBl, Value.ownBlock, ebs] at hk
  omega
theorem rf_New_none (room : Int) (h0 : room < 0 ∨ 1048576 < room) (w : World) : Calls Tryz.prog 7 #[.int .i64 room] w fun e w' => e = .returned (.pointer none) ∧ w = w' := by
  by_cases i0 : room < 0
  · go_enter Tryz.func7, Tryz.ntmps7
    go_wp2
    go_ret
    exact ⟨rfl, rfl⟩
  · have i1 : 1048576 < room := by omega
    go_enter Tryz.func7, Tryz.ntmps7
    go_wp2
    go_ret
    exact ⟨rfl, rfl⟩

theorem rf_named (k : Bs) (hk : k.length ≤ maxLen) (w : World) : Calls Tryz.prog 24 #[.string ⟨k.toArray⟩] w fun e w' => e = .returned (.bool (named k)) ∧ w = w' := by
  by_cases h0 : k.length = 0
  · have : k = [] := List.eq_nil_of_length_eq_zero h0
    subst this
    go_enter Tryz.func24, Tryz.ntmps24
    go_wp2
    go_ret
    exact ⟨rfl, rfl⟩
  · have i0 : 1 ≤ k.length := by omega
    have i1 : (1 : Int) ≤ k.length := by omega
    by_cases h1 : k.length ≤ 16
    · have i2 : (k.length : Int) ≤ 16 := by omega
      have hn : named k = true := by simp [named]; omega
      rw [hn]
      go_enter Tryz.func24, Tryz.ntmps24
      go_wp2
      go_ret
      simp
    · have i2 : ¬ (k.length : Int) ≤ 16 := by omega
      have hn : named k = false := by simp [named]; omega
      rw [hn]
      go_enter Tryz.func24, Tryz.ntmps24
      go_wp2
      go_ret
      simp

set_option maxRecDepth 100000 in
set_option maxHeartbeats 1600000 in
theorem rf_Halt (rb : Nat) (s : FsS) (F : List Nat) (n : Int) (w : World) (h : RfRep w rb s F) :
    Calls Tryz.prog 35 #[.pointer (some ⟨rb, 0, none⟩), .int .i64 n] w fun e w' => e = .returned (.tuple #[]) ∧ RfTo w rb F (fsHalt s n) w' := by
  obtain ⟨fa, fc, pa, pc, lv, E, L, h, rfl⟩ := h
  have HIN := hide h
  obtain ⟨c0, c1, c2, c3, c4, c5, cf, hrb⟩ := rf_cells h.blk
  have f3 := cf 3
  have f4 := cf 4
  clear h c0 c1 c2 c5 cf
  go_enter Tryz.func35, Tryz.ntmps35
  go_wp2
  go_end0
  have e1 := setCell_heap HIN.out.blk 3 (.bool true)
  have e2 := setCell_heap e1 4 (.int .i64 (max n 0))
  refine ⟨rfl, HIN.out.selfTo (s' := fsHalt s n) (lv' := max n 0) ?_ (fun m hm => by simpa [fsHalt] using hm) rfl rfl (fun k hk => (heap_set_ne hk).trans (heap_set_ne hk)) rfl rfl rfl (by simp [World.setCell])⟩
  simpa [fsHalt] using e2

set_option maxRecDepth 100000 in
set_option maxHeartbeats 800000 in
theorem rf_kept (a : Option Addr) (n c : Nat) (torn : Int) (K : List Bool) (i : Nat) (w : World) (hx : RdK w (.slice a n c) K) (hn : n = K.length) (hl : n ≤ 1048576) (hi : i ≤ 1048576) :
    Calls Tryz.prog 61 #[.agg #[.slice a n c, .int .i64 torn], .int .i64 i] w fun e w' => e = .returned (.bool (keptB K i)) ∧ Below w.heap.size w w' := by
  have hb := below_alloc w (.cells #[.slice a n c, .int .i64 torn] 45)
  have HB := hide hb
  have HX := hide (hx.low hb)
  by_cases hin : i < n
  · have i0 : (i : Int) < n := by omega
    obtain ⟨bb, off, cc, he, hc, hlt⟩ := RdK.at HX.out (k := i) (by omega)
    simp only [Value.slice.injEq] at he
    obtain ⟨rfl, -⟩ := he
    have hk : keptB K i = K[i]'(by omega) := by unfold keptB; rw [List.getElem?_eq_getElem (by omega)]; rfl
    rw [hk]
    generalize K[i]'(by omega) = y at hc
    clear hk hx hb hn HX
    go_enter Tryz.func61, Tryz.ntmps61
    go_wp2
    go_ret
    exact ⟨rfl, HB.out⟩
  · have i0 : ¬ ((i : Int) < n) := by omega
    have hk : keptB K i = false := by unfold keptB; rw [List.getElem?_eq_none (by omega)]; rfl
    rw [hk]
    clear hk hx hb hn HX
    go_enter Tryz.func61, Tryz.ntmps61
    go_wp2
    go_ret
    exact ⟨rfl, HB.out⟩
end Go.Proofs.YtglgjakjhkdoaaaGreatDoor
