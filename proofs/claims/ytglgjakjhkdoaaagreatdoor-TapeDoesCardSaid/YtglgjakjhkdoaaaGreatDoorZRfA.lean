/-
  The document's file system in memory; less, find.
-/
import Derived.Test.YtglgjakjhkdoaaaGreatDoorZFsNAFsPRfMFsXC
import Derived.BigQuiet
namespace Go.Proofs.YtglgjakjhkdoaaaGreatDoor
open Go.RowKit Go.Maps
set_option linter.unusedVariables false
set_option linter.unusedSimpArgs false

theorem below_drewN {B n : Nat} {w w' : World} (h : Below B w w') : Below B w (w'.drewN n) := ⟨h.os, h.tape, h.output, h.size, h.block⟩
theorem str_at (a : Bs) {i : Nat} (hi : i < a.length) {x : UInt8} (h : a[i] = x) : ∀ hh, (⟨a.toArray⟩ : ByteArray)[i]'hh = x := fun hh => h
set_option maxRecDepth 100000 in
set_option maxHeartbeats 1600000 in
theorem rf_less (a b : Bs) (ha : a.length ≤ maxLen) (hb : b.length ≤ maxLen) (w : World) : Calls Tryz.prog 49 #[.string ⟨a.toArray⟩, .string ⟨b.toArray⟩] w fun e w' => e = .returned (.bool (bytesBefore a b)) ∧ Below w.heap.size w w' := by
  unfold maxLen at ha hb
  go_enter Tryz.func49, Tryz.ntmps49
  go_wp2
  go_loopw [5] (fun iv wr => ∃ i : Nat, iv = .int .i64 i ∧ i ≤ a.length ∧ i ≤ b.length ∧ Hid (bytesBefore a b = bytesBefore (a.drop i) (b.drop i)) ∧ Hid (Below w.heap.size w wr)) (fun iv _ => match iv with | .int _ j => a.length - j.toNat | _ => 0)
  case atStart => exact ⟨0, rfl, Nat.zero_le _, Nat.zero_le _, hide rfl, hide (Below.refl _ _)⟩
  case round =>
    obtain ⟨i, rfl, hia, hib, he, hbw⟩ := hrel
    by_cases h1 : i < a.length
    · by_cases h2 : i < b.length
      · have d1 : decide ((i : Int) < a.length) = true := by simpa using h1
        have d2 : decide ((i : Int) < b.length) = true := by simpa using h2
        obtain ⟨x, hxe⟩ : ∃ x, a[i] = x := ⟨_, rfl⟩
        obtain ⟨y, hye⟩ : ∃ y, b[i] = y := ⟨_, rfl⟩
        have hdr : Hid (bytesBefore (a.drop i) (b.drop i) = (decide (x < y) || (x == y && bytesBefore (a.drop (i + 1)) (b.drop (i + 1))))) := hide (by
          rw [List.drop_eq_getElem_cons h1, List.drop_eq_getElem_cons h2, hxe, hye]
          rfl)
        have hwi : IntKind.i64.wrap ((i : Int) + 1) = (i : Int) + 1 := wrap64 (by omega) (by omega)
        have gx := str_at a h1 hxe
        have gy := str_at b h2 hye
        clear hxe hye
        by_cases hxy : x = y
        · subst hxy
          have hst : Hid (bytesBefore a b = bytesBefore (a.drop (i + 1)) (b.drop (i + 1))) := hide (by rw [he.out, hdr.out]; simp [UInt8.lt_irrefl])
          have e1 : ((x.toNat : Int) != (x.toNat : Int)) = false := by simp
          clear hdr he
          go_wp2_with fail
          go_quiet (fail)
          go_wp2
          refine ⟨⟨i + 1, by simp, h1, h2, hst, hide (below_drewN hbw.out)⟩, ?_⟩
          show a.length - ((i : Int) + 1).toNat < a.length - ((i : Nat) : Int).toNat
          omega
        · have hn : x.toNat ≠ y.toNat := fun e => hxy (UInt8.toNat_inj.1 e)
          have e1 : ((x.toNat : Int) != (y.toNat : Int)) = true := by simp; omega
          have e2 : decide ((x.toNat : Int) < (y.toNat : Int)) = decide (x < y) := by rw [decide_eq_decide, UInt8.lt_iff_toNat_lt]; omega
          have hst : Hid (bytesBefore a b = decide (x < y)) := hide (by rw [he.out, hdr.out]; simp [hxy])
          clear hdr he hn hxy
          go_wp2_with fail
          go_quiet (fail)
          go_wp2_with fail
          go_quiet (fail)
          go_wp2
          go_ret
          exact ⟨by rw [hst.out]; first | rfl | simp [e2], below_drewN (below_drewN hbw.out)⟩
      · obtain rfl : i = b.length := by omega
        have d1 : decide ((b.length : Int) < a.length) = true := by simpa using h1
        have d2 : decide ((b.length : Int) < b.length) = false := by simp
        have d3 : decide ((a.length : Int) < b.length) = false := decide_eq_false (by omega)
        have hst : Hid (bytesBefore a b = false) := hide (by
          rw [he.out, List.drop_length, List.drop_eq_getElem_cons h1]
          rfl)
        clear he
        go_wp2
        go_ret
        exact ⟨by rw [hst.out]; simp; omega, hbw.out⟩
    · obtain rfl : i = a.length := by omega
      have d1 : decide ((a.length : Int) < a.length) = false := by simp
      have hst : Hid (bytesBefore a b = decide ((a.length : Int) < b.length)) := hide (by
        rw [he.out, List.drop_length]
        cases hd : b.drop a.length with
        | nil =>
          have := List.length_drop (i := a.length) (l := b)
          rw [hd] at this
          simp only [List.length_nil] at this
          rw [decide_eq_false (by omega)]
          rfl
        | cons q r =>
          have := List.length_drop (i := a.length) (l := b)
          rw [hd] at this
          simp only [List.length_cons] at this
          rw [decide_eq_true (by omega)]
          rfl)
      clear he
      go_wp2
      go_ret
      exact ⟨by rw [hst.out]; simp, hbw.out⟩

structure EX (w : World) (e : Ent) : Prop where
  own : w.ownsRow 0 5 1 e.v e.n (bcells e.b)
  n : e.n = e.b.length
theorem EX.rd {w : World} {e : Ent} (h : EX w e) : RdB w e.v e.b := by
  have h1 := ownsRow_rd h.own
  rw [h.n] at h1
  exact h1
theorem EX.same {w w' : World} {e : Ent} (h : EX w e) (hk : ∀ k, e.v.ownBlock = some k → w'.heap[k]? = w.heap[k]?) : EX w' e := ⟨ownsRow_same h.own hk, h.n⟩
theorem EX.lt {w : World} {e : Ent} (h : EX w e) {k : Nat} (hk : e.v.ownBlock = some k) : k < w.heap.size := (h.own.lt k hk).2
def ebs (X : List (Bs × Ent)) : List Nat := X.flatMap fun p => p.2.v.ownBlock.toList
theorem mem_ebs {X : List (Bs × Ent)} {k : Nat} : k ∈ ebs X ↔ ∃ p ∈ X, p.2.v.ownBlock = some k := by
  unfold ebs
  rw [List.mem_flatMap]
  simp [Option.mem_toList]
theorem ebs_append (X Y : List (Bs × Ent)) : ebs (X ++ Y) = ebs X ++ ebs Y := List.flatMap_append
structure RfIn (w : World) (rb : Nat) (s : FsS) (fa : Option Addr) (fc : Nat) (pa : Option Addr) (pc : Nat) (lv : Int) (E L : List (Bs × Ent)) : Prop where
  blk : w.heap[rb]? = some (.cells #[.int .i64 s.room, .slice fa E.length fc, .slice pa L.length pc, .bool s.left.isSome, .int .i64 lv, .bool s.halted] 63 (0, 0))
  frow : w.ownsRow 0 72 2 (.slice fa E.length fc) E.length (eflat E)
  prow : w.ownsRow 0 73 2 (.slice pa L.length pc) L.length (eflat L)
  ent : ∀ p ∈ E ++ L, EX w p.2
  ex : (ebs (E ++ L)).Nodup
  left : ∀ n, s.left = some n → lv = n
  files : s.files = E.map ct
  waits : s.waits = L.map ct
  rise : Rises E
def rfBl (rb : Nat) (fa pa : Option Addr) (E L : List (Bs × Ent)) : List Nat := rb :: ((Value.slice fa 0 0).ownBlock.toList ++ (Value.slice pa 0 0).ownBlock.toList ++ ebs (E ++ L))
def RfRep (w : World) (rb : Nat) (s : FsS) (F : List Nat) : Prop := ∃ fa fc pa pc lv E L, RfIn w rb s fa fc pa pc lv E L ∧ F = rfBl rb fa pa E L
def RfTo (w : World) (rb : Nat) (F : List Nat) (s : FsS) (w' : World) : Prop := ∃ F', RfRep w' rb s F' ∧ Chg F F' w w'
theorem ownBlock_sl (a : Option Addr) (n c n' c' : Nat) : (Value.slice a n c).ownBlock = (Value.slice a n' c').ownBlock := by cases a <;> rfl
theorem RfIn.lt {w : World} {rb : Nat} {s : FsS} {fa pa : Option Addr} {fc pc : Nat} {lv : Int} {E L : List (Bs × Ent)} (h : RfIn w rb s fa fc pa pc lv E L) : ∀ k ∈ rfBl rb fa pa E L, k < w.heap.size := by
  intro k hk
  unfold rfBl at hk
  simp only [List.mem_cons, List.mem_append, Option.mem_toList] at hk
  rcases hk with rfl | (hk | hk) | hk
  · exact (Array.getElem?_eq_some_iff.1 h.blk).1
  · exact (h.frow.lt k (by rw [ownBlock_sl fa _ _ 0 0]; exact hk)).2
  · exact (h.prow.lt k (by rw [ownBlock_sl pa _ _ 0 0]; exact hk)).2
  · obtain ⟨p, hp, hk⟩ := mem_ebs.1 hk
    exact (h.ent p hp).lt hk
theorem RfIn.same {w w' : World} {rb : Nat} {s : FsS} {fa pa : Option Addr} {fc pc : Nat} {lv : Int} {E L : List (Bs × Ent)} (h : RfIn w rb s fa fc pa pc lv E L) (hk : ∀ k ∈ rfBl rb fa pa E L, w'.heap[k]? = w.heap[k]?) : RfIn w' rb s fa fc pa pc lv E L := by
  have hm : ∀ k, k ∈ rfBl rb fa pa E L ↔ k = rb ∨ ((Value.slice fa 0 0).ownBlock = some k ∨ (Value.slice pa 0 0).ownBlock = some k) ∨ k ∈ ebs (E ++ L) := fun k => by
    unfold rfBl
    simp only [List.mem_cons, List.mem_append, Option.mem_toList, Option.mem_def]
  exact ⟨(hk rb ((hm _).2 (.inl rfl))).trans h.blk, ownsRow_same h.frow fun b hb => hk b ((hm _).2 (.inr (.inl (.inl (by rw [ownBlock_sl fa 0 0 E.length fc]; exact hb))))), ownsRow_same h.prow fun b hb => hk b ((hm _).2 (.inr (.inl (.inr (by rw [ownBlock_sl pa 0 0 L.length pc]; exact hb))))), fun p hp => (h.ent p hp).same fun k hk' => hk k ((hm _).2 (.inr (.inr (mem_ebs.2 ⟨p, hp, hk'⟩)))), h.ex, h.left, h.files, h.waits, h.rise⟩
theorem RfIn.low {w w' : World} {rb : Nat} {s : FsS} {fa pa : Option Addr} {fc pc : Nat} {lv : Int} {E L : List (Bs × Ent)} (h : RfIn w rb s fa fc pa pc lv E L) (hb : Below w.heap.size w w') : RfIn w' rb s fa fc pa pc lv E L := h.same fun k hk => hb.block k (h.lt k hk)
theorem RfRep.lt {w : World} {rb : Nat} {s : FsS} {F : List Nat} (h : RfRep w rb s F) : ∀ k ∈ F, k < w.heap.size := by
  obtain ⟨fa, fc, pa, pc, lv, E, L, h, rfl⟩ := h
  exact h.lt
theorem RfRep.same {w w' : World} {rb : Nat} {s : FsS} {F : List Nat} (h : RfRep w rb s F) (hk : ∀ k ∈ F, w'.heap[k]? = w.heap[k]?) : RfRep w' rb s F := by
  obtain ⟨fa, fc, pa, pc, lv, E, L, h, rfl⟩ := h
  exact ⟨fa, fc, pa, pc, lv, E, L, h.same hk, rfl⟩
theorem RfRep.low {w w' : World} {rb : Nat} {s : FsS} {F : List Nat} (h : RfRep w rb s F) (hb : Below w.heap.size w w') : RfRep w' rb s F := h.same fun k hk => hb.block k (h.lt k hk)
theorem RfRep.chg {w w' : World} {rb : Nat} {s : FsS} {F G G' : List Nat} (h : RfRep w rb s F) (hc : Chg G G' w w') (hd : ∀ k ∈ F, k ∉ G) : RfRep w' rb s F := h.same fun k hk => hc.block k (h.lt k hk) (hd k hk)
theorem RfTo.refl {w : World} {rb : Nat} {s : FsS} {F : List Nat} (h : RfRep w rb s F) : RfTo w rb F s w := ⟨F, h, Chg.refl F w⟩
theorem RfTo.then {w w1 w2 : World} {rb : Nat} {F : List Nat} {s s' : FsS} (h : RfTo w rb F s w1) (k : ∀ F1, RfRep w1 rb s F1 → RfTo w1 rb F1 s' w2) : RfTo w rb F s' w2 := by
  obtain ⟨F1, h1, h2⟩ := h
  obtain ⟨F2, h3, h4⟩ := k F1 h1
  exact ⟨F2, h3, h2.trans h4⟩
theorem rf_cells {w : World} {rb : Nat} {v0 v1 v2 v3 v4 v5 : Value} {t : TypeId} (h : w.heap[rb]? = some (.cells #[v0, v1, v2, v3, v4, v5] t (0, 0))) :
    w.cell? ⟨rb, 0, none⟩ = some v0 ∧ w.cell? ⟨rb, 1, none⟩ = some v1 ∧ w.cell? ⟨rb, 2, none⟩ = some v2 ∧ w.cell? ⟨rb, 3, none⟩ = some v3 ∧ w.cell? ⟨rb, 4, none⟩ = some v4 ∧ w.cell? ⟨rb, 5, none⟩ = some v5 ∧ (∀ i, w.frozen? ⟨rb, i, none⟩ = false) ∧ rb < w.heap.size := by
  refine ⟨?_, ?_, ?_, ?_, ?_, ?_, ?_, (Array.getElem?_eq_some_iff.1 h).1⟩ <;> simp [World.cell?, World.frozen?, h]
theorem erow_get {w : World} {B t n c : Nat} {a : Option Addr} {L : List (Bs × Ent)} (h : w.ownsRow B t 2 (.slice a n c) n (eflat L)) (hn : n = L.length) {i : Nat} {p : Bs × Ent} (hp : L[i]? = some p) :
    ∃ g, a = some ⟨g, 0, none⟩ ∧ w.cell? ⟨g, i * 2, none⟩ = some (.string ⟨p.1.toArray⟩) ∧ w.cell? ⟨g, i * 2 + 1, none⟩ = some (.slice p.2.a p.2.n p.2.c) ∧ g < w.heap.size ∧ (∀ j, w.frozen? ⟨g, j, none⟩ = false) := by
  obtain ⟨hi, rfl⟩ := List.getElem?_eq_some_iff.1 hp
  obtain ⟨g, rfl⟩ : ∃ g, a = some ⟨g, 0, none⟩ := by
    rcases h.2 with ⟨h1, h2⟩ | ⟨g, cap, cur, h1, _⟩
    · omega
    · simp only [Value.slice.injEq] at h1
      exact ⟨g, h1.1⟩
  obtain ⟨g1, g2⟩ := eflat_get hi
  have a1 := h.cellAt (i * 2) (by omega)
  have a2 := h.cellAt (i * 2 + 1) (by omega)
  rw [Nat.mul_comm, g1] at a1
  rw [Nat.mul_comm, g2] at a2
  exact ⟨g, rfl, by rw [Nat.mul_comm]; exact a1, by rw [Nat.mul_comm]; exact a2, (h.lt g rfl).2, fun j => h.frozenAt j⟩
theorem names_shortB {s : FsS} (h : s.OkB) {k : Bs} (hk : s.has k = true) : k.length ≤ 16 := by
  unfold FsS.has at hk
  obtain ⟨v, hv⟩ := Option.isSome_iff_exists.1 hk
  have h2 := h.names (k, v) (mget_mem hv)
  unfold named at h2
  simp only [Bool.and_eq_true, decide_eq_true_eq] at h2
  exact h2.2
theorem RfIn.shortB {w : World} {rb : Nat} {s : FsS} {fa pa : Option Addr} {fc pc : Nat} {lv : Int} {E L : List (Bs × Ent)} (h : RfIn w rb s fa fc pa pc lv E L) (ok : s.OkB) : E.length ≤ 8 ∧ L.length ≤ 1048576 ∧ (∀ p ∈ E, p.1.length ≤ 16) ∧ (∀ p ∈ L, p.1.length ≤ 16) := by
  have h1 := ok.few
  have h2 := ok.waits_le
  rw [h.files, List.length_map] at h1
  rw [h.waits, List.length_map] at h2
  refine ⟨h1, h2, fun p hp => ?_, fun p hp => ?_⟩
  · have h3 := ok.names (ct p) (by rw [h.files]; exact List.mem_map_of_mem hp)
    unfold named at h3
    simp only [Bool.and_eq_true, decide_eq_true_eq] at h3
    exact h3.2
  · exact names_shortB ok (ok.piece (ct p) (by rw [h.waits]; exact List.mem_map_of_mem hp)).2
theorem RfIn.short {w : World} {rb : Nat} {s : FsS} {fa pa : Option Addr} {fc pc : Nat} {lv : Int} {E L : List (Bs × Ent)} (h : RfIn w rb s fa fc pa pc lv E L) (ok : s.Ok) : E.length ≤ 8 ∧ L.length ≤ 1048576 ∧ (∀ p ∈ E, p.1.length ≤ 16) ∧ (∀ p ∈ L, p.1.length ≤ 16) := h.shortB ok.toB
theorem posF_ct (k : Bs) (E : List (Bs × Ent)) : posF k (E.map ct) = posF k E := by
  unfold posF
  induction E with
  | nil => rfl
  | cons p E ih =>
    rw [List.map_cons, List.takeWhile_cons, List.takeWhile_cons]
    by_cases h : bytesBefore p.1 k = true
    · rw [if_pos (show bytesBefore (ct p).1 k = true from h), if_pos h, List.length_cons, List.length_cons, ih]
    · rw [if_neg (show ¬ bytesBefore (ct p).1 k = true from h), if_neg h]
      rfl

set_option maxRecDepth 100000 in
set_option maxHeartbeats 1600000 in
theorem rf_find (rb : Nat) (s : FsS) (fa pa : Option Addr) (fc pc : Nat) (lv : Int) (E L : List (Bs × Ent)) (k : Bs) (hk : k.length ≤ maxLen) (hE : E.length ≤ 8) (hnm : ∀ p ∈ E, p.1.length ≤ 16) (w : World) (h : RfIn w rb s fa fc pa pc lv E L) :
    Calls Tryz.prog 23 #[.pointer (some ⟨rb, 0, none⟩), .string ⟨k.toArray⟩] w fun e w' => e = .returned (.tuple #[.int .i64 (posF k E), .bool (mget k E).isSome]) ∧ Below w.heap.size w w' := by
  have H := hide h
  obtain ⟨n, hn⟩ : ∃ n, n = E.length := ⟨_, rfl⟩
  have HN := hide hn
  rw [← hn] at hE
  have HNM := hide hnm
  clear h hn hnm
  go_enter Tryz.func23, Tryz.ntmps23
  go_wp2
  go_loopw [6] (fun iv wr => ∃ i : Nat, iv = .int .i64 i ∧ i ≤ n ∧ Hid (∀ j p, j < i → E[j]? = some p → bytesBefore p.1 k = true) ∧ Hid (Below w.heap.size w wr)) (fun iv _ => match iv with | .int _ j => n - j.toNat | _ => 0)
  case atStart => exact ⟨0, rfl, Nat.zero_le _, hide (fun j p hj => by omega), hide (Below.refl _ _)⟩
  case round =>
    obtain ⟨i, rfl, hi, hB, hbw⟩ := hrel
    have h1 := hide (H.out.low hbw.out)
    have f1 := (rf_cells h1.out.blk).2.1
    rw [← HN.out] at f1
    by_cases hil : i < n
    · obtain ⟨p, hp⟩ : ∃ p, E[i]? = some p := ⟨_, List.getElem?_eq_getElem (by have := HN.out; omega)⟩
      obtain ⟨g, rfl, c0, c1, hg, cf⟩ := erow_get h1.out.frow rfl hp
      have hpl : p.1.length ≤ maxLen := by have := HNM.out p (List.mem_of_getElem? hp); unfold maxLen; omega
      obtain ⟨pk, pe⟩ := p
      have hd : decide ((i : Int) < n) = true := by simpa using hil
      have HP := hide hp
      have hwi : IntKind.i64.wrap ((i : Int) + 1) = (i : Int) + 1 := wrap64 (by omega) (by omega)
      simp only at c0 hpl
      clear hp cf c1 h1
      cases hb : bytesBefore pk k with
      | true =>
        have HB := hide hb
        have hB2 : Hid (∀ j p, j < i + 1 → E[j]? = some p → bytesBefore p.1 k = true) := hide fun j p hj hp => by
          by_cases e : j = i
          · subst e
            rw [HP.out] at hp
            simp only [Option.some.injEq] at hp
            subst hp
            exact HB.out
          · exact hB.out j p (by omega) hp
        clear hb hB
        go_wp2_with fail
        refine (rf_less pk k hpl hk wr).mono ?_
        rintro e w1 ⟨rfl, hb1⟩
        rw [HB.out]
        have HW := hide (hbw.out.trans (hb1.mono hbw.out.size))
        clear hb1 hbw f1 c0
        go_wp2
        refine ⟨⟨i + 1, by simp, hil, hB2, HW⟩, ?_⟩
        show n - ((i : Int) + 1).toNat < n - ((i : Nat) : Int).toNat
        omega
      | false =>
        have HB := hide hb
        have hpos : Hid (posF k E = i) := hide (posF_spec (by have := HN.out; omega) hB.out fun p hp => by
          rw [HP.out] at hp
          simp only [Option.some.injEq] at hp
          subst hp
          exact HB.out)
        have hhas : Hid ((mget k E).isSome = (pk == k)) := hide (by
          by_cases e : pk = k
          · subst e
            have h2 := (posF_has H.out.rise pe).2 (by rw [hpos.out]; exact HP.out)
            rw [h2]
            simp
          · rw [show (pk == k) = false by simpa using e]
            cases hg : mget k E with
            | none => rfl
            | some v =>
              have h2 := (posF_has H.out.rise v).1 hg
              rw [hpos.out, HP.out] at h2
              simp only [Option.some.injEq, Prod.mk.injEq] at h2
              exact absurd h2.1 e)
        clear hb hB
        go_wp2_with fail
        refine (rf_less pk k hpl hk wr).mono ?_
        rintro e w1 ⟨rfl, hb1⟩
        rw [HB.out]
        have f1 := (hb1.cell (p := ⟨rb, 1, none⟩) (by have := (rf_cells (H.out.low hbw.out).blk).2.2.2.2.2.2.2; exact this)).trans f1
        have c0 := (hb1.cell (p := ⟨g, i * 2, none⟩) hg).trans c0
        have HW := hide (hbw.out.trans (hb1.mono hbw.out.size))
        clear hb1 hbw
        by_cases e : pk = k
        · subst e
          have k0 : (pk == pk) = true := by simp
          go_wp2_with fail
          go_quiet (fail)
          go_wp2
          go_ret2
          exact ⟨by rw [hhas.out, hpos.out, k0]; rfl, below_drewN HW.out⟩
        · have k0 : (pk == k) = false := by simpa using e
          go_wp2_with fail
          go_quiet (fail)
          go_wp2
          go_ret2
          exact ⟨by rw [hhas.out, hpos.out, k0]; rfl, below_drewN HW.out⟩
    · have hin := hide (show i = n by omega)
      have hd : decide ((i : Int) < n) = false := decide_eq_false (by omega)
      have hpos : Hid (posF k E = i) := hide (posF_spec (by have := HN.out; have := hin.out; omega) hB.out fun p hp => by
        have := (List.getElem?_eq_some_iff.1 hp).1
        have := HN.out; have := hin.out
        omega)
      have hhas : Hid ((mget k E).isSome = false) := hide (by
        cases hg : mget k E with
        | none => rfl
        | some v =>
          have h2 := (posF_has H.out.rise v).1 hg
          have h3 := (List.getElem?_eq_some_iff.1 h2).1
          have := HN.out; have := hin.out
          rw [hpos.out] at h3
          omega)
      clear h1 hB
      go_wp2_with fail
      go_quiet (fail)
      go_wp2
      go_ret2
      exact ⟨by rw [hhas.out, hpos.out]; rfl, below_drewN hbw.out⟩
end Go.Proofs.YtglgjakjhkdoaaaGreatDoor
