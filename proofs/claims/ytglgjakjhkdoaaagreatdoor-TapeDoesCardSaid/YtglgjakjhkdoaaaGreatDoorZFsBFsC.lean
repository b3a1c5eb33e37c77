/-
Walks over the small functions of a file system.
The walk of a file system's Used.
-/
import Derived.Test.YtglgjakjhkdoaaaGreatDoorZFsMFsA
import Derived.BigQuiet
namespace Go.Proofs.YtglgjakjhkdoaaaGreatDoor
open Go.RowKit Go.Maps
set_option linter.unusedVariables false
set_option linter.unusedSimpArgs false

theorem zero_bytes (w : World) : (zeroValue 22).run Tryz.prog w = .ok (.slice none 0 0) w := by kernel_rfl

theorem fs_named (k : Bs) (hk : k.length ≤ maxLen) (w : World) : Calls Tryz.prog 18 #[.string ⟨k.toArray⟩] w fun e w' => e = .returned (.bool (named k)) ∧ w = w' := by
  by_cases h0 : k.length = 0
  · have : k = [] := List.eq_nil_of_length_eq_zero h0
    subst this
    go_enter Tryz.func18, Tryz.ntmps18
    go_wp2
    go_ret
    exact ⟨rfl, rfl⟩
  · have i0 : 0 < k.length := by omega
    have i1 : (0 : Int) < k.length := by omega
    by_cases h1 : k.length ≤ 16
    · have i2 : (k.length : Int) ≤ 16 := by omega
      have hn : named k = true := by simp [named]; omega
      rw [hn]
      go_enter Tryz.func18, Tryz.ntmps18
      go_wp2
      go_ret
      simp
    · have i2 : ¬ (k.length : Int) ≤ 16 := by omega
      have hn : named k = false := by simp [named]; omega
      rw [hn]
      go_enter Tryz.func18, Tryz.ntmps18
      go_wp2
      go_ret
      simp

theorem fs_there (sb : Nat) (s : FsS) (F : List Nat) (k : Bs) (hk : k.length ≤ maxLen) (w : World) (h : FsRep w sb s F) :
    Calls Tryz.prog 19 #[.pointer (some ⟨sb, 0, none⟩), .string ⟨k.toArray⟩] w fun e w' => e = .returned (.bool (s.has k)) ∧ w = w' := by
  obtain ⟨mb, wv, lp, E, L, h, rfl⟩ := h
  obtain ⟨c0, c1, c2, c3, c4, fz⟩ := fs_cells h.blk
  have hm := hide h.map
  have hh : Hid (s.has k = (mget k E).isSome) := hide (by
    unfold FsS.has
    rw [h.files, show E.map ct = E.map (fun p => (p.1, Ent.b p.2)) from rfl, mget_ct, Option.isSome_map])
  rw [hh.out]
  clear h c0 c2 c3 c4 fz hh
  cases hg : mget k E with
  | none =>
    have HG := hide hg
    clear hg
    go_enter Tryz.func19, Tryz.ntmps19
    go_wp2_with (at_lookup; refine wpList_mlook_ok keysFs rfl _ _ 55 rfl 22 Tryz.underlying55 (zero_bytes _) rfl rfl hm.out k rfl hk none HG.out (.slice none 0 0) rfl false rfl ?_)
    go_ret
    exact ⟨rfl, rfl⟩
  | some e =>
    have HG := hide hg
    clear hg
    go_enter Tryz.func19, Tryz.ntmps19
    go_wp2_with (at_lookup; refine wpList_mlook_ok keysFs rfl _ _ 55 rfl 22 Tryz.underlying55 (zero_bytes _) rfl rfl hm.out k rfl hk (some e) HG.out (.slice e.a e.n e.c) rfl true rfl ?_)
    go_ret
    exact ⟨rfl, rfl⟩

theorem FsIn.ne {w : World} {sb mb : Nat} {s : FsS} {wv : Value} {lp : Option Nat} {E L : List (Bs × Ent)} (h : FsIn w sb s mb wv lp E L) :
    mb ≠ sb ∧ (∀ k, wv.ownBlock = some k → k ≠ sb ∧ k ≠ mb) ∧ (∀ k, lp = some k → k ≠ sb ∧ k ≠ mb ∧ wv.ownBlock ≠ some k) := by
  have h1 := h.nd
  unfold muts at h1
  simp only [List.nodup_cons, List.mem_cons, List.mem_append, Option.mem_toList, not_or, List.nodup_append] at h1
  obtain ⟨⟨a1, a2, a3⟩, ⟨a4, a5⟩, a6, a7, a8⟩ := h1
  refine ⟨Ne.symm a1, fun k hk => ⟨fun e => a2 (by rw [← e]; exact hk), fun e => a4 (by rw [← e]; exact hk)⟩, fun k hk => ⟨fun e => a3 (by rw [← e]; exact hk), fun e => a5 (by rw [← e]; exact hk), fun e => ?_⟩⟩
  exact a8 k (by simp [e]) k (by simp [hk]) rfl
theorem FsIn.self {w w' : World} {sb mb : Nat} {s s' : FsS} {wv : Value} {lp : Option Nat} {E L : List (Bs × Ent)} (h : FsIn w sb s mb wv lp E L)
    (hblk : w'.heap[sb]? = some (.cells #[.int .i64 s'.room, .map (some mb), wv, .pointer (lp.map fun b => ⟨b, 0, none⟩), .bool s'.halted] 59 (0, 0))) (hf : s'.files = s.files) (hw : s'.waits = s.waits) (hl : s'.left = s.left)
    (ho : ∀ k, k ≠ sb → w'.heap[k]? = w.heap[k]?) (hs : w.heap.size ≤ w'.heap.size) : FsIn w' sb s' mb wv lp E L := by
  obtain ⟨n1, n2, n3⟩ := h.ne
  refine ⟨hblk, h.map.same (ho mb n1), ownsRow_same h.row fun b hb => ho b (n2 b hb).1, hl ▸ h.left.same fun b hb => ho b (n3 b hb).1, hf.trans h.files, hw.trans h.waits, fun p hp => (h.ent p hp).same (fun k hk => ho k fun e => ?_) hs, h.nd⟩
  have := ((h.ent p hp).far k hk).1
  exact this (by simp [muts, e])
theorem FsIn.leftTo {w w' : World} {sb mb lb : Nat} {s s' : FsS} {wv : Value} {E L : List (Bs × Ent)} {n' : Int} (h : FsIn w sb s mb wv (some lb) E L)
    (hblk : w'.heap[lb]? = some (.cells #[.int .i64 n'] 3 (0, 0))) (hr : s'.room = s.room) (hh : s'.halted = s.halted) (hf : s'.files = s.files) (hw : s'.waits = s.waits) (hl : s'.left = some n')
    (ho : ∀ k, k ≠ lb → w'.heap[k]? = w.heap[k]?) (hs : w.heap.size ≤ w'.heap.size) : FsIn w' sb s' mb wv (some lb) E L := by
  obtain ⟨n1, n2, n3⟩ := h.ne
  obtain ⟨n4, n5, n6⟩ := n3 lb rfl
  refine ⟨?_, h.map.same (ho mb (Ne.symm n5)), ownsRow_same h.row fun b hb => ho b fun e => n6 (by rw [← e]; exact hb), ?_, hf.trans h.files, hw.trans h.waits, fun p hp => (h.ent p hp).same (fun k hk => ho k fun e => ?_) hs, h.nd⟩
  · rw [ho sb (Ne.symm n4), hr, hh]; exact h.blk
  · rw [hl]; exact hblk
  · have := ((h.ent p hp).far k hk).1
    exact this (by simp [muts, e])
theorem FsTo.refl {w : World} {sb : Nat} {s : FsS} {F : List Nat} (h : FsRep w sb s F) : FsTo w sb F s w := ⟨F, h, Chg.refl F w⟩

theorem fs_goes (sb : Nat) (s : FsS) (F : List Nat) (w : World) (h : FsRep w sb s F) (hl : ∀ n, s.left = some n → 0 ≤ n ∧ n ≤ 9223372036854775807) :
    Calls Tryz.prog 20 #[.pointer (some ⟨sb, 0, none⟩)] w fun e w' => e = .returned (.bool s.go) ∧ FsTo w sb F s.went w' := by
  have hrep := hide h
  obtain ⟨mb, wv, lp, E, L, h, rfl⟩ := h
  obtain ⟨c0, c1, c2, c3, c4, fz⟩ := fs_cells h.blk
  have f4 := fz 4
  have hsb := (Array.getElem?_eq_some_iff.1 h.blk).1
  have H := hide h
  rcases h.left.cases with ⟨rfl, h2⟩ | ⟨lb, n, rfl, h2, h3⟩
  · have e1 : s.go = true := by simp [FsS.go, h2]
    have e2 : s.went = s := by simp [FsS.went, h2]
    rw [e1, e2]
    clear h c0 c1 c2 c4 fz h2 e1 e2
    go_enter Tryz.func20, Tryz.ntmps20
    go_wp2
    go_ret
    exact ⟨rfl, FsTo.refl hrep.out⟩
  · have hn := hl n h2
    obtain ⟨d0, g0, hlb⟩ := heapCell h3
    by_cases hz : n = 0
    · subst hz
      have e1 : s.go = false := by simp [FsS.go, h2]
      have e2 : s.went = { s with halted := true } := by simp [FsS.went, h2]
      rw [e1, e2]
      have H2 := hide h2
      clear h c0 c1 c2 fz h2 h3 e1 e2
      go_enter Tryz.func20, Tryz.ntmps20
      go_wp2
      go_ret
      refine ⟨rfl, H.out.to (H.out.self (s' := { s with halted := true }) ?_ rfl rfl rfl (fun k hk => heap_set_ne hk) (by simp [World.setCell])) rfl rfl rfl (by simp [World.setCell]) (fun k hk hm => heap_set_ne fun e => hm (by simp [muts, e])) (fun k hk => .inl hk) (fun p hp k hk => .inl ⟨p, hp, hk⟩)⟩
      have := setCell_heap H.out.blk 4 (.bool true)
      simpa using this
    · have e1 : s.go = true := by simp [FsS.go, h2, hz]
      have e2 : s.went = { s with left := some (n - 1) } := by simp [FsS.went, h2, hz]
      rw [e1, e2]
      have H2 := hide h2
      have i0 : (n == 0) = false := by simpa using hz
      have i1 : IntKind.i64.wrap (n - 1) = n - 1 := by
        unfold IntKind.wrap
        simp [IntKind.bits, IntKind.signed]
        omega
      have H3 := hide h3
      clear h c0 c1 c2 c4 fz h2 h3 e1 e2
      go_enter Tryz.func20, Tryz.ntmps20
      go_wp2
      go_ret
      refine ⟨rfl, H.out.to (H.out.leftTo (s' := { s with left := some (n - 1) }) (n' := n - 1) ?_ rfl rfl rfl rfl rfl (fun k hk => heap_set_ne hk) (by simp [World.setCell])) rfl rfl rfl (by simp [World.setCell]) (fun k hk hm => heap_set_ne fun e => hm (by simp [muts, e])) (fun k hk => .inl hk) (fun p hp k hk => .inl ⟨p, hp, hk⟩)⟩
      have := setCell_heap H3.out 0 (.int .i64 (n - 1))
      simpa using this

theorem fs_Waits (sb : Nat) (s : FsS) (F : List Nat) (w : World) (h : FsRep w sb s F) : Calls Tryz.prog 42 #[.pointer (some ⟨sb, 0, none⟩)] w fun e w' => e = .returned (.int .i64 s.waits.length) ∧ w = w' := by
  obtain ⟨mb, wv, lp, E, L, h, rfl⟩ := h
  obtain ⟨c0, c1, c2, c3, c4, fz⟩ := fs_cells h.blk
  obtain ⟨a, c, rfl⟩ := (ownsRow_rd h.row).head
  have e : s.waits.length = L.length := by rw [h.waits, List.length_map]
  rw [e]
  clear h c0 c1 c3 c4 fz e
  go_enter Tryz.func42, Tryz.ntmps42
  go_wp2
  go_ret
  exact ⟨rfl, rfl⟩
end Go.Proofs.YtglgjakjhkdoaaaGreatDoor

namespace Go.Proofs.YtglgjakjhkdoaaaGreatDoor
open Go.RowKit Go.Maps
set_option linter.unusedVariables false
set_option linter.unusedSimpArgs false

def totE (X : List (Bs × Ent)) : Nat := (X.map fun p => p.2.b.length).sum
theorem totE_eq (X : List (Bs × Ent)) : totE X = total (X.map ct) := by
  unfold totE total
  rw [List.map_map]
  rfl
theorem totE_perm {X Y : List (Bs × Ent)} (h : X.Perm Y) : totE X = totE Y := by
  unfold totE
  exact (h.map _).sum_nat
theorem totE_append (X Y : List (Bs × Ent)) : totE (X ++ Y) = totE X + totE Y := by simp [totE]
theorem totE_cons (p : Bs × Ent) (X : List (Bs × Ent)) : totE (p :: X) = p.2.b.length + totE X := by simp [totE]
theorem isSl_inv : ∀ v, isSl v = true → ∃ c : Option Addr × Nat × Nat, v = .slice c.1 c.2.1 c.2.2 := fun v h => by
  cases v <;> simp [isSl] at h
  exact ⟨(_, _, _), rfl⟩
theorem wrap64 {n : Int} (h0 : -9223372036854775808 ≤ n) (h1 : n ≤ 9223372036854775807) : IntKind.i64.wrap n = n := by
  unfold IntKind.wrap
  simp [IntKind.bits, IntKind.signed]
  omega

theorem FsIn.low {w w' : World} {sb mb : Nat} {s : FsS} {wv : Value} {lp : Option Nat} {E L : List (Bs × Ent)} (h : FsIn w sb s mb wv lp E L) (hb : Below w.heap.size w w') : FsIn w' sb s mb wv lp E L :=
  h.same (fun k hk => hb.block k (h.fp_lt k hk)) hb.size
theorem FsIn.at {w : World} {sb mb : Nat} {s : FsS} {a : Option Addr} {n c : Nat} {lp : Option Nat} {E L : List (Bs × Ent)} (h : FsIn w sb s mb (.slice a n c) lp E L) {i : Nat} (hi : i < L.length) :
    ∃ g pk pb pa pn pc, a = some ⟨g, 0, none⟩ ∧ L[i] = (pk, ⟨pb, pa, pn, pc⟩) ∧ w.cell? ⟨g, i * 2, none⟩ = some (.string ⟨pk.toArray⟩) ∧ w.cell? ⟨g, i * 2 + 1, none⟩ = some (.slice pa pn pc) ∧ g < w.heap.size ∧ ∀ j, w.frozen? ⟨g, j, none⟩ = false := by
  have hr := h.row
  rcases hr.2 with ⟨h1, h2⟩ | ⟨g, cap, cur, h1, h2, h3, h4⟩
  · have : L.length = 0 := h2
    omega
  · simp only [Value.slice.injEq] at h1
    obtain ⟨rfl, rfl, rfl⟩ := h1
    obtain ⟨g1, g2⟩ := eflat_get hi
    have hc := hr.cells (g := g) rfl
    have a1 := hc (2 * i) _ g1
    have a2 := hc (2 * i + 1) _ g2
    have e : ∀ j, (⟨g, 0, none⟩ : Addr).add j = ⟨g, j, none⟩ := fun j => by unfold Addr.add; split <;> simp_all
    rw [e, Nat.mul_comm] at a1
    rw [e, Nat.mul_comm] at a2
    refine ⟨g, L[i].1, L[i].2.b, L[i].2.a, L[i].2.n, L[i].2.c, rfl, rfl, a1, a2, (Array.getElem?_eq_some_iff.1 h3).1, fun j => ?_⟩
    simp [World.frozen?, h3]

theorem FsS.Ok.used_le {s : FsS} (h : s.Ok) : s.used ≤ 1048576 := by have := h.used; have := h.room1; omega
theorem length_le_total : ∀ L : List (Bs × Bs), (∀ p ∈ L, p.2 ≠ []) → L.length ≤ total L
  | [], _ => by simp
  | p :: L, h => by
    have := length_le_total L fun q hq => h q (by simp [hq])
    have := List.length_pos_iff.2 (h p (by simp))
    rw [total_cons, List.length_cons]
    omega
theorem FsS.Ok.waits_le {s : FsS} (h : s.Ok) : s.waits.length ≤ 1048576 := by
  have h1 := length_le_total s.waits fun p hp => (h.piece p hp).1
  have h2 := h.used_le
  unfold FsS.used at h2
  omega
structure FsS.OkB (s : FsS) : Prop where
  used_le : s.used ≤ 1048576
  few : s.files.length ≤ 8
  names : ∀ p ∈ s.files, named p.1 = true
  piece : ∀ p ∈ s.waits, p.2 ≠ [] ∧ s.has p.1 = true
theorem FsS.Ok.toB {s : FsS} (h : s.Ok) : s.OkB := ⟨h.used_le, h.few, h.names, h.piece⟩
theorem FsS.OkB.waits_le {s : FsS} (h : s.OkB) : s.waits.length ≤ 1048576 := by
  have h1 := length_le_total s.waits fun p hp => (h.piece p hp).1
  have h2 := h.used_le
  unfold FsS.used at h2
  omega

set_option maxRecDepth 100000 in
set_option maxHeartbeats 1600000 in
theorem fs_UsedB (sb : Nat) (s : FsS) (F : List Nat) (w : World) (h : FsRep w sb s F) (ok : s.OkB) :
    Calls Tryz.prog 21 #[.pointer (some ⟨sb, 0, none⟩)] w fun e w' => e = .returned (.int .i64 s.used) ∧ Below w.heap.size w w' := by
  have hu : s.used ≤ 1048576 := ok.used_le
  have hwl : s.waits.length ≤ 1048576 := ok.waits_le
  have hlt := h.lt
  obtain ⟨mb, wv, lp, E, L, h, rfl⟩ := h
  obtain ⟨c0, c1, c2, c3, c4, fz⟩ := fs_cells h.blk
  obtain ⟨wa, wc, rfl⟩ := (ownsRow_rd h.row).head
  have hsb := (Array.getElem?_eq_some_iff.1 h.blk).1
  have hm := hide h.map
  have hmlt := hide h.map.lt
  have hus : Hid (s.used = totE E + totE L) := hide (by unfold FsS.used; rw [h.files, h.waits, totE_eq, totE_eq])
  have hC : Hid (w.cell? ⟨sb, 2, none⟩ = some (.slice wa L.length wc)) := hide c2
  have H := hide h
  have hlen : Hid (∀ p ∈ E ++ L, p.2.n = p.2.b.length) := hide fun p hp => (h.ent p hp).n
  have HU := hide hu
  have hll : Hid (L.length ≤ 1048576) := hide (by rw [h.waits, List.length_map] at hwl; exact hwl)
  clear hwl ok
  clear h c0 c2 c3 c4 fz hlt hu
  go_enter Tryz.func21, Tryz.ntmps21
  go_wp2_with (at_range; refine wpList_mrange keysFs rfl _ 55 rfl 22 Tryz.underlying55 rfl hm.out ?_; intro w0 hr0 hg0 hs0; have R0 := hide hr0; have G0 := hide ((Below.refl w.heap.size w).grown hg0 (Nat.le_refl _) (fun j hj => by cases hj)); clear hr0 hg0; go_frame)
  go_loopw [3, 5] (fun nv bv wr => ∃ (n : Nat) (R : List (Bs × Ent)), nv = .int .i64 n ∧ Hid (RangeM wr Tryz.prog 9 strL (fun l : Bs => l.length ≤ maxLen) isSl Ent.v mb w.heap.size E R) ∧ Hid (n + totE R = totE E) ∧ Hid (Below w.heap.size w wr)) (fun _ _ wr => wr.rangeLeft mb w.heap.size)
  case atStart => exact ⟨0, E, rfl, R0, hide (by omega), G0⟩
  case round =>
    obtain ⟨n, R, rfl, hr, hn, hb⟩ := hrel
    clear R0 G0 hs0
    have hMO := hide (by obtain ⟨_, _, _, _, _, h4⟩ := hr.out; exact h4 : MOk (fun l : Bs => l.length ≤ maxLen) R)
    have hsub := hide (by obtain ⟨_, _, _, _, h3, _⟩ := hr.out; exact h3 : ∀ p ∈ R, p ∈ E)
    go_wp2_with (at_next; refine wpList_mnext keysFs rfl _ rfl (fun c : Option Addr × Nat × Nat => Value.slice c.1 c.2.1 c.2.2) isSl_inv rfl hr.out ?_ ?_)
    · intro hR
      subst hR
      have hn2 : Hid (n = totE E) := hide (by have := hn.out; simpa [totE] using this)
      have hC2 : wr.cell? ⟨sb, 2, none⟩ = some (.slice wa L.length wc) := (hb.out.cell (p := ⟨sb, 2, none⟩) hsb).trans hC.out
      clear hr hn hMO hsub
      go_wp2
      go_loopw [3, 7, 26] (fun nv pv iv wr => ∃ (n i : Nat), nv = .int .i64 n ∧ iv = .int .i64 i ∧ i ≤ L.length ∧ Hid (n = totE E + totE (L.take i)) ∧ Hid (Below w.heap.size w wr)) (fun _ _ iv _ => match iv with | .int _ j => L.length - j.toNat | _ => 0)
      case atStart => exact ⟨n, 0, rfl, rfl, Nat.zero_le _, hide (by have := hn2.out; simpa [totE] using this), hb⟩
      case round =>
        obtain ⟨m, i, rfl, rfl, hi, hm2, hbw⟩ := hrel
        clear hb hC2
        by_cases hil : i < L.length
        · have i0 : (i : Int) < L.length := by omega
          obtain ⟨g, pk, pb, pa, pn, pc, rfl, hpe, a1, a2, hg, hfz⟩ := (H.out.low hbw.out).at hil
          have hpn : Hid (pn = pb.length) := hide (by
            have := hlen.out L[i] (List.mem_append_right _ (List.getElem_mem hil))
            rw [hpe] at this
            exact this)
          have hm3 : Hid (m + pn = totE E + totE (L.take (i + 1))) := hide (by
            have e : L.take (i + 1) = L.take i ++ [L[i]] := by rw [List.take_add_one, List.getElem?_eq_getElem hil]; rfl
            rw [hm2.out, hpn.out, e, hpe]
            simp [totE]
            omega)
          have hle : Hid (totE (L.take (i + 1)) ≤ totE L) := hide (by
            have h1 : totE L = totE (L.take (i + 1)) + totE (L.drop (i + 1)) := by
              rw [← totE_append, List.take_append_drop]
            omega)
          have hw1 : IntKind.i64.wrap ((m : Int) + pn) = (m : Int) + pn := wrap64 (by omega) (by have := hm3.out; have := hle.out; have := HU.out; have := hus.out; omega)
          have hw2 : IntKind.i64.wrap ((i : Int) + 1) = (i : Int) + 1 := wrap64 (by omega) (by have := hll.out; omega)
          clear hpe hm2 hle
          go_wp2
          refine ⟨⟨m + pn, i + 1, by simp, rfl, hil, hm3, hide (hbw.out.trans ((below_alloc wr _).mono hbw.out.size))⟩, ?_⟩
          show L.length - ((i : Int) + 1).toNat < L.length - ((i : Nat) : Int).toNat
          omega
        · obtain rfl : i = L.length := by omega
          have hend : Hid ((m : Int) = s.used) := hide (by rw [hus.out, hm2.out, List.take_length])
          clear hm2
          go_wp2
          go_ret
          refine ⟨?_, hbw.out⟩
          rw [hend.out]
          rfl
    · intro pk pe pa pn pc w1 hp hc hr1 hg1 hs1 hlt hen
      obtain ⟨p, hpp⟩ : ∃ p : Bs × Ent, p = (pk, pe) := ⟨_, rfl⟩
      obtain rfl : pk = p.1 := by rw [hpp]
      obtain rfl : pe = p.2 := by rw [hpp]
      clear hpp
      have hpv : Hid (p.2.n = pn) := hide (by unfold Ent.v at hc; simp only [Value.slice.injEq] at hc; exact hc.2.1)
      have hpn : Hid (pn = p.2.b.length) := hide (by rw [← hpv.out]; exact hlen.out p (List.mem_append_left _ (hsub.out p hp)))
      have hb1 : Hid (Below w.heap.size w w1) := hide (hb.out.grown hg1 hb.out.size fun j hj => by cases hj; exact Nat.le_refl _)
      have hn1 : Hid (n + pn + totE (mdel p.1 R) = totE E) := hide (by
        have e := totE_perm (mdel_perm (p := p) hMO.out hp)
        rw [totE_cons] at e
        rw [← hn.out, ← e, hpn.out]
        omega)
      have hw1 : IntKind.i64.wrap ((n : Int) + pn) = (n : Int) + pn := wrap64 (by omega) (by have := hn1.out; have := HU.out; have := hus.out; omega)
      have HR1 := hide hr1; have HLT := hide hlt
      clear hp hc hr1 hg1 hs1 hlt hr hn hb hMO hsub hpv
      go_wp2
      refine ⟨⟨n + pn, mdel p.1 R, by simp, HR1, hn1, hb1⟩, HLT.out⟩
theorem fs_Used (sb : Nat) (s : FsS) (F : List Nat) (w : World) (h : FsRep w sb s F) (ok : s.Ok) :
    Calls Tryz.prog 21 #[.pointer (some ⟨sb, 0, none⟩)] w fun e w' => e = .returned (.int .i64 s.used) ∧ Below w.heap.size w w' := fs_UsedB sb s F w h ok.toB
end Go.Proofs.YtglgjakjhkdoaaaGreatDoor
