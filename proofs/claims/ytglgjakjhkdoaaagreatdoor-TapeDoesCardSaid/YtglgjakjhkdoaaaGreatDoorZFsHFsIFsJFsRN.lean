/-
The walks of a file system's Sync, Cut, Remove.
The walks of slices.Grow at nil, and slices.Concat of three lists of bytes.
What a crash keeps, as plain data; the walk of keeps.
What came in: lists of bools, what a crash keeps; a Loss in a box.
-/
import Derived.Test.YtglgjakjhkdoaaaGreatDoorZFsG
import Derived.Lib.AppendZeros
import Derived.Test.YtglgjakjhkdoaaaGreatDoorZOwnZer
import Derived.Test.YtglgjakjhkdoaaaGreatDoorZItemsLaw
namespace Go.Proofs.YtglgjakjhkdoaaaGreatDoor
open Go.RowKit Go.Maps
set_option linter.unusedVariables false
set_option linter.unusedSimpArgs false

theorem FsIn.mapChg {w0 w w' : World} {sb mb : Nat} {s s' : FsS} {wv : Value} {lp : Option Nat} {E E' L : List (Bs × Ent)} {F0 : List Nat} (h : FsIn w sb s mb wv lp E L) (hC : Chg F0 (fpOf (muts sb mb wv lp) (E ++ L)) w0 w) (hm : FsMap w' mb E') (hg : w.grownBy w' (some mb))
    (hr : s'.room = s.room) (hh : s'.halted = s.halted) (hl : s'.left = s.left) (hf : s'.files = E'.map ct) (hw : s'.waits = s.waits) (he : ∀ p ∈ E', p ∈ E ∨ (EntOk w (muts sb mb wv lp) p.2 ∧ ∀ k, p.2.v.ownBlock = some k → k ∈ F0 ∨ w0.heap.size ≤ k)) :
    FsTo w0 sb F0 s' w' := by
  have h' := h.mapTo hm hg hr hh hl hf hw fun p hp => (he p hp).imp id (·.1)
  have hmb : mb ∈ fpOf (muts sb mb wv lp) (E ++ L) := mem_fpOf.2 (.inl (by simp [muts]))
  refine ⟨_, ⟨mb, wv, lp, E', L, h', rfl⟩, hg.os.trans hC.os, hg.tape.trans hC.tape, hg.output.trans hC.output, Nat.le_trans hC.size hg.size, fun k hk hn => ?_, fun k hk => ?_⟩
  · rw [hg.block k (Nat.lt_of_lt_of_le hk hC.size) fun e => ?_, hC.block k hk hn]
    simp only [Option.some.injEq] at e
    have e2 : k = mb := by first | exact e | exact e.symm
    rw [e2] at hn hk
    rcases hC.fresh mb hmb with h1 | h1
    · exact hn h1
    · omega
  · rcases mem_fpOf.1 hk with hk | ⟨p, hp, hk⟩
    · exact hC.fresh k (mem_fpOf.2 (.inl hk))
    · rcases List.mem_append.1 hp with hp | hp
      · rcases he p hp with h2 | h2
        · exact hC.fresh k (mem_fpOf.2 (.inr ⟨p, List.mem_append_left _ h2, hk⟩))
        · exact h2.2 k hk
      · exact hC.fresh k (mem_fpOf.2 (.inr ⟨p, List.mem_append_right _ hp, hk⟩))
theorem Fresh.stays {w w1 w2 : World} {F F2 : List Nat} {a : Option Addr} {n c : Nat} {b : Bs} (h : Fresh w w1 a n c b) (hF : ∀ k ∈ F, k < w.heap.size) (hC : Chg F F2 w1 w2) {M : List Nat} (hM : ∀ k ∈ M, k ∈ F2) :
    EntOk w2 M ⟨b, a, n, c⟩ ∧ ∀ k, (Value.slice a n c).ownBlock = some k → w.heap.size ≤ k := by
  have hb : ∀ k, (Value.slice a n c).ownBlock = some k → w2.heap[k]? = w1.heap[k]? := fun k hk => hC.block k (h.ge k hk).2 fun hm => by have := hF k hm; have := (h.ge k hk).1; omega
  refine ⟨⟨h.rd.keep hb, h.2.1, h.cap.1, h.cap.2, fun k hk => ⟨fun hm => ?_, Nat.lt_of_lt_of_le (h.ge k hk).2 hC.size⟩⟩, fun k hk => (h.ge k hk).1⟩
  have h1 := h.ge k hk
  rcases hC.fresh k (hM k hm) with h2 | h2
  · have := hF k h2; omega
  · omega

set_option maxRecDepth 100000 in
set_option maxHeartbeats 1600000 in
theorem fs_Sync (sb : Nat) (s : FsS) (F : List Nat) (k : Bs) (hk : k.length ≤ maxLen) (w : World) (h : FsRep w sb s F) (ok : s.Ok) :
    Calls Tryz.prog 55 #[.pointer (some ⟨sb, 0, none⟩), .string ⟨k.toArray⟩] w fun e w' => e = .returned (.int .u16 (fsSync s k).1) ∧ FsTo w sb F (fsSync s k).2 w' := by
  have H := hide h
  have OK := hide ok
  clear h ok
  cases hh : s.has k with
  | false =>
    have e : fsSync s k = (80, s) := by simp [fsSync, hh]
    rw [e]
    clear e
    go_enter Tryz.func55, Tryz.ntmps55
    go_wp2_with fail
    refine (fs_Read sb s F k hk w H.out OK.out).mono ?_
    rintro e w1 hr
    unfold ReadTold at hr
    rw [hh, if_neg (by simp)] at hr
    obtain ⟨rfl, rfl⟩ := hr
    go_wp2
    go_ret
    exact ⟨rfl, FsTo.refl H.out⟩
  | true =>
    cases hg : s.go with
    | false =>
      have e : fsSync s k = (0, s.went) := by simp [fsSync, hh, hg]
      rw [e]
      clear e
      go_enter Tryz.func55, Tryz.ntmps55
      go_wp2_with fail
      refine (fs_Read sb s F k hk w H.out OK.out).mono ?_
      rintro e w1 hr
      unfold ReadTold at hr
      rw [hh, if_pos rfl] at hr
      obtain ⟨a, n, c, rfl, hf⟩ := hr
      have HF := hide hf
      clear hf
      go_wp2_with fail
      refine (fs_goes sb s F w1 (H.out.low HF.out.2.2) OK.out.left0).mono ?_
      rintro e w2 ⟨rfl, ht⟩
      rw [hg]
      have HT := hide ht
      clear ht hg
      go_wp2
      go_ret
      obtain ⟨F2, hF2, hC2⟩ := HT.out
      exact ⟨rfl, F2, hF2, (Chg.of_below HF.out.2.2).trans hC2⟩
    | true =>
      have e : fsSync s k = (0, { s.went with files := mput strL k (s.get k) s.files, waits := forgotten k s.waits }) := by simp [fsSync, hh, hg]
      rw [e]
      obtain ⟨s3, hs3⟩ : ∃ s3, s3 = ({ s.went with files := mput strL k (s.get k) s.files } : FsS) := ⟨_, rfl⟩
      obtain ⟨e1, e2, e3⟩ := went_parts s
      have hs4 : ({ s.went with files := mput strL k (s.get k) s.files, waits := forgotten k s.waits } : FsS) = { s3 with waits := forgotten k s3.waits } := by rw [hs3, e3]
      rw [hs4]
      have HS3 := hide hs3
      have E2 := hide e2; have E3 := hide e3
      clear e hs4 hs3 e1 e2 e3
      go_enter Tryz.func55, Tryz.ntmps55
      go_wp2_with fail
      refine (fs_Read sb s F k hk w H.out OK.out).mono ?_
      rintro e w1 hr
      unfold ReadTold at hr
      rw [hh, if_pos rfl] at hr
      obtain ⟨a, n, c, rfl, hf⟩ := hr
      have HF := hide hf
      clear hf
      go_wp2_with fail
      refine (fs_goes sb s F w1 (H.out.low HF.out.2.2) OK.out.left0).mono ?_
      rintro e w2 ⟨rfl, ht⟩
      rw [hg]
      obtain ⟨F2, hr2, hC2⟩ := ht
      have HC2 := hide hC2
      obtain ⟨mb, wv, lp, E, L, h2, rfl⟩ := hr2
      obtain ⟨c0, c1, c2, c3, c4, fz⟩ := fs_cells h2.blk
      have hent := HF.out.stays H.out.lt hC2 (M := muts sb mb wv lp) fun k hk => mem_fpOf.2 (.inl hk)
      have hE1 : E.length < maxLen := by
        have h3 := files_len h2
        rw [E2.out] at h3
        have := OK.out.few
        unfold maxLen
        omega
      have H2 := hide h2
      have hm2 := hide h2.map
      have HENT := hide hent
      clear hC2 h2 c0 c2 c3 c4 fz hent hg
      go_wp2_with (at_mapUpdate; refine wpList_mput keysFs rfl _ _ _ 55 rfl 22 Tryz.underlying55 rfl hm2.out hE1 k rfl hk ⟨s.get k, a, n, c⟩ rfl rfl ?_; intro w3 hm3 hg3 hs4; have HM3 := hide hm3; have HG3 := hide hg3; clear hm3 hg3 hs4 c1)
      have h3 := H2.out.mapChg (s' := s3) ((Chg.of_below HF.out.2.2).trans HC2.out) HM3.out HG3.out (by rw [HS3.out]) (by rw [HS3.out]) (by rw [HS3.out]) (by rw [HS3.out, ← E2.out]; exact mput_files H2.out k ⟨s.get k, a, n, c⟩) (by rw [HS3.out]) (fun p hp => by
        rcases (mput_mem _ _ _ _ _).1 hp with rfl | hp
        · exact .inr ⟨HENT.out.1, fun k hk => .inr (HENT.out.2 k hk)⟩
        · exact .inl hp.1)
      obtain ⟨F3, hF3, hC3⟩ := h3
      have HC3 := hide hC3
      refine (fs_forget sb s3 F3 k w3 hF3 (by rw [HS3.out]; show s.went.waits.length ≤ 1048576; rw [E3.out]; exact OK.out.waits_le)).mono ?_
      rintro e w4 ⟨rfl, ht4⟩
      have HT4 := hide ht4
      clear ht4 hF3 hC3
      go_wp2
      go_ret
      obtain ⟨F4, hF4, hC4⟩ := HT4.out
      exact ⟨rfl, F4, hF4, HC3.out.trans hC4⟩

set_option maxRecDepth 100000 in
set_option maxHeartbeats 1600000 in
theorem fs_Remove (sb : Nat) (s : FsS) (F : List Nat) (k : Bs) (hk : k.length ≤ maxLen) (w : World) (h : FsRep w sb s F) (ok : s.Ok) :
    Calls Tryz.prog 65 #[.pointer (some ⟨sb, 0, none⟩), .string ⟨k.toArray⟩] w fun e w' => e = .returned (.int .u16 (fsRemove s k).1) ∧ FsTo w sb F (fsRemove s k).2 w' := by
  have H := hide h
  have OK := hide ok
  clear h ok
  cases hh : s.has k with
  | false =>
    have e : fsRemove s k = (80, s) := by simp [fsRemove, hh]
    rw [e]
    clear e
    go_enter Tryz.func65, Tryz.ntmps65
    go_wp2_with (refine (fs_there sb s F k hk _ H.out).mono ?_; rintro e w' ⟨rfl, rfl⟩; rw [hh])
    go_ret
    exact ⟨rfl, FsTo.refl H.out⟩
  | true =>
    cases hg : s.go with
    | false =>
      have e : fsRemove s k = (0, s.went) := by simp [fsRemove, hh, hg]
      rw [e]
      clear e
      go_enter Tryz.func65, Tryz.ntmps65
      go_wp2_with (refine (fs_there sb s F k hk _ H.out).mono ?_; rintro e w' ⟨rfl, rfl⟩; rw [hh])
      refine (fs_goes sb s F w H.out OK.out.left0).mono ?_
      rintro e w2 ⟨rfl, ht⟩
      rw [hg]
      have HT := hide ht
      clear ht hg
      go_wp2
      go_ret
      exact ⟨rfl, HT.out⟩
    | true =>
      have e : fsRemove s k = (0, { s.went with files := mdel k s.files, waits := forgotten k s.waits }) := by simp [fsRemove, hh, hg]
      rw [e]
      obtain ⟨s3, hs3⟩ : ∃ s3, s3 = ({ s.went with files := mdel k s.files } : FsS) := ⟨_, rfl⟩
      obtain ⟨e1, e2, e3⟩ := went_parts s
      have hs4 : ({ s.went with files := mdel k s.files, waits := forgotten k s.waits } : FsS) = { s3 with waits := forgotten k s3.waits } := by rw [hs3, e3]
      rw [hs4]
      have HS3 := hide hs3
      have E2 := hide e2; have E3 := hide e3
      clear e hs4 hs3 e1 e2 e3
      go_enter Tryz.func65, Tryz.ntmps65
      go_wp2_with (refine (fs_there sb s F k hk _ H.out).mono ?_; rintro e w' ⟨rfl, rfl⟩; rw [hh])
      refine (fs_goes sb s F w H.out OK.out.left0).mono ?_
      rintro e w2 ⟨rfl, ht⟩
      rw [hg]
      obtain ⟨F2, hr2, hC2⟩ := ht
      have HC2 := hide hC2
      obtain ⟨mb, wv, lp, E, L, h2, rfl⟩ := hr2
      obtain ⟨c0, c1, c2, c3, c4, fz⟩ := fs_cells h2.blk
      have H2 := hide h2
      have hm2 := hide h2.map
      clear hC2 h2 c0 c2 c3 c4 fz hg
      go_wp2_with (at_delete; refine wpList_mdel keysFs rfl _ _ 55 rfl 22 Tryz.underlying55 rfl hm2.out k rfl hk ?_; intro w3 hm3 hg3 hs4; have HM3 := hide hm3; have HG3 := hide hg3; clear hm3 hg3 hs4 c1)
      have h3 := H2.out.mapChg (s' := s3) HC2.out HM3.out HG3.out (by rw [HS3.out]) (by rw [HS3.out]) (by rw [HS3.out]) (by rw [HS3.out, ← E2.out]; exact mdel_files H2.out k) (by rw [HS3.out]) (fun p hp => .inl ((mdel_mem _ _ _).1 hp).1)
      obtain ⟨F3, hF3, hC3⟩ := h3
      have HC3 := hide hC3
      refine (fs_forget sb s3 F3 k w3 hF3 (by rw [HS3.out]; show s.went.waits.length ≤ 1048576; rw [E3.out]; exact OK.out.waits_le)).mono ?_
      rintro e w4 ⟨rfl, ht4⟩
      have HT4 := hide ht4
      clear ht4 hF3 hC3
      go_wp2
      go_ret
      obtain ⟨F4, hF4, hC4⟩ := HT4.out
      exact ⟨rfl, F4, hF4, HC3.out.trans hC4⟩
end Go.Proofs.YtglgjakjhkdoaaaGreatDoor

namespace Go.Proofs.YtglgjakjhkdoaaaGreatDoor
open Go.RowKit Go.Maps
set_option linter.unusedVariables false
set_option linter.unusedSimpArgs false

set_option maxRecDepth 100000 in
set_option maxHeartbeats 800000 in
theorem sl_Grow (n : Nat) (hl : n ≤ 1099511627776) (w : World) : Calls Tryz.prog 73 #[.slice none 0 0, .int .i64 n] w fun e w' => ∃ a c, e = .returned (.slice a 0 c) ∧ RowIs w w.heap.size (.slice a 0 c) [] w' := by
  by_cases h0 : n = 0
  · subst h0
    go_enter Tryz.func73, Tryz.ntmps73
    go_wp2
    go_ret
    exact ⟨none, 0, rfl, World.ownsRow_nil _ _ _ _, Below.refl _ _, Nat.le_refl _⟩
  · have i0 : ¬ ((n : Int) < 0) := by omega
    have i1 : (0 : Int) < n := by omega
    obtain ⟨i, hi, hz0, hz1, hz2⟩ := info_parts u8_info
    have hr := fun ty => Lib.run_append_nil_zeros (P := Tryz.prog) w 22 3 ty 5 i (.int .u8 0) .i64 .i64 Tryz.underlying22 Tryz.underlying3 hi hz0 n (by omega) (by rw [hz1]; decide) (by omega) (by rw [hz2]; omega)
    have hw : IntKind.i64.wrap (n : Int) = n := wrap64 (by omega) (by omega)
    obtain ⟨cap, hcap⟩ : ∃ cap, cap = grownCap w n 0 5 := ⟨_, rfl⟩
    rw [← hcap] at hr
    have HC := hide hcap
    clear hcap hi hz0 hz1 hz2
    go_enter Tryz.func73, Tryz.ntmps73
    have HR := hide hr
    clear hr
    go_wp2_with (at_builtin; refine Lib.wpList_append_run _ rfl _ _ _ _ rfl _ _ rfl rfl _ _ (HR.out _) ?_)
    go_ret
    have h1 : n ≤ cap := by rw [HC.out]; exact grownCap_ge _ _ _ _
    have h2 : cap ≤ maxLen := by rw [HC.out]; exact grownCap_le_maxLen _ _ _ _ (by unfold maxLen; omega)
    refine ⟨_, cap, rfl, ⟨rfl, .inr ⟨w.heap.size, cap, _, rfl, Nat.le_refl _, heap_alloc_at w.drew _, Nat.zero_le _, h2, ?_, ?_⟩⟩, below_undrew ((Below.refl w.heap.size w.drew).alloc (Nat.le_refl _) _), by simp⟩
    · simp [Builtin.zeroCells, Value.cells]
      omega
    · simp [bcells]

def Three (w : World) (g : Nat) (x y z : Bs) : Prop := ∃ ax nx cx ay ny cy az nz cz, w.heap[g]? = some (.cells #[.slice ax nx cx, .slice ay ny cy, .slice az nz cz] 22 (0, 0)) ∧ RdB w (.slice ax nx cx) x ∧ nx = x.length ∧ RdB w (.slice ay ny cy) y ∧ ny = y.length ∧ RdB w (.slice az nz cz) z ∧ nz = z.length

set_option maxRecDepth 100000 in
set_option maxHeartbeats 1600000 in
theorem sl_Concat (g : Nat) (x y z : Bs) (w : World) (h : Three w g x y z) (hl : x.length + y.length + z.length ≤ 1099511627776) :
    Calls Tryz.prog 60 #[.slice (some ⟨g, 0, none⟩) 3 3] w fun e w' => ∃ a n c, e = .returned (.slice a n c) ∧ Fresh w w' a n c (x ++ y ++ z) := by
  obtain ⟨ax, nx, cx, ay, ny, cy, az, nz, cz, h0, hx, hnx, hy, hny, hz, hnz⟩ := h
  have hg := (Array.getElem?_eq_some_iff.1 h0).1
  have c0 : w.cell? ⟨g, 0, none⟩ = some (.slice ax nx cx) := by simp [World.cell?, h0]
  have c1 : w.cell? ⟨g, 1, none⟩ = some (.slice ay ny cy) := by simp [World.cell?, h0]
  have c2 : w.cell? ⟨g, 2, none⟩ = some (.slice az nz cz) := by simp [World.cell?, h0]
  have HX := hide hx; have HY := hide hy; have HZ := hide hz
  have HC0 := hide c0; have HC1 := hide c1; have HC2 := hide c2
  have HNX := hide hnx; have HNY := hide hny; have HNZ := hide hnz
  have hs : nx + ny + nz ≤ 1099511627776 := by omega
  have g1 : IntKind.i64.wrap (nx : Int) = nx := wrap64 (by omega) (by omega)
  have g2 : IntKind.i64.wrap ((nx : Int) + ny) = (nx : Int) + ny := wrap64 (by omega) (by omega)
  have g3 : IntKind.i64.wrap ((nx : Int) + ny + nz) = (nx : Int) + ny + nz := wrap64 (by omega) (by omega)
  have i1 : ¬ ((nx : Int) < 0) := by omega
  have i2 : ¬ ((nx : Int) + ny < 0) := by omega
  have i3 : ¬ ((nx : Int) + ny + nz < 0) := by omega
  clear h0 hx hy hz hnx hny hnz
  go_enter Tryz.func60, Tryz.ntmps60
  go_wp2
  go_loop [3, 5, 11] (fun sv tv iv => ∃ i : Nat, i ≤ 3 ∧ iv = .int .i64 i ∧ sv = .int .i64 ((if 0 < i then (nx : Int) else 0) + (if 1 < i then (ny : Int) else 0) + (if 2 < i then (nz : Int) else 0))) (fun _ _ iv => match iv with | .int _ j => 3 - j.toNat | _ => 0)
  case atStart => exact ⟨0, by omega, rfl, rfl⟩
  case round =>
    obtain ⟨i, hi, rfl, rfl⟩ := hrel
    match i, hi with
    | 0, _ =>
      simp only [Nat.lt_irrefl, if_false, if_true, Nat.zero_lt_one, Nat.reduceLT, Int.add_zero, Int.zero_add]
      go_wp2
      exact ⟨⟨1, by omega, rfl, by simp⟩, by decide⟩
    | 1, _ =>
      simp only [Nat.lt_irrefl, if_false, if_true, Nat.zero_lt_one, Nat.reduceLT, Int.add_zero, Int.zero_add]
      go_wp2
      exact ⟨⟨2, by omega, rfl, by simp⟩, by decide⟩
    | 2, _ =>
      simp only [Nat.lt_irrefl, if_false, if_true, Nat.zero_lt_one, Nat.reduceLT, Int.add_zero, Int.zero_add]
      go_wp2
      exact ⟨⟨3, by omega, rfl, by simp⟩, by decide⟩
    | 3, _ =>
      simp only [Nat.lt_irrefl, if_false, if_true, Nat.zero_lt_one, Nat.reduceLT, Int.add_zero, Int.zero_add]
      have e3 : ((nx : Int) + ny + nz) = ((nx + ny + nz : Nat) : Int) := by simp
      rw [e3] at *
      go_wp2_with fail
      refine (sl_Grow (nx + ny + nz) hs w).mono ?_
      rintro e w1 ⟨a1, q1, rfl, hr1⟩
      have HR1 := hide hr1
      have hlow := hide hr1.2.1
      clear hr1 c0 c1 c2 g1 g2 g3 i1 i2 i3 e3
      go_wp2
      go_loopw [6, 8, 27] (fun ov xv iv wr => ∃ (i : Nat) (O : Bs) (a : Option Addr) (n c : Nat), i ≤ 3 ∧ iv = .int .i64 i ∧ ov = .slice a n c ∧ Hid (n = O.length) ∧ Hid (O = (if 0 < i then x else []) ++ (if 1 < i then y else []) ++ (if 2 < i then z else [])) ∧ Hid (RowIs w w.heap.size (.slice a n c) O wr)) (fun _ _ iv _ => match iv with | .int _ j => 3 - j.toNat | _ => 0)
      case atStart => exact ⟨0, [], a1, 0, _, by omega, rfl, rfl, hide rfl, hide rfl, HR1⟩
      case round =>
        obtain ⟨i, O, a, n, c, hi, rfl, rfl, hn, hO, hrow⟩ := hrel
        have hb := hrow.out.2.1
        have c0 : wr.cell? ⟨g, 0, none⟩ = some (.slice ax nx cx) := (hb.cell (p := ⟨g, 0, none⟩) hg).trans HC0.out
        have c1 : wr.cell? ⟨g, 1, none⟩ = some (.slice ay ny cy) := (hb.cell (p := ⟨g, 1, none⟩) hg).trans HC1.out
        have c2 : wr.cell? ⟨g, 2, none⟩ = some (.slice az nz cz) := (hb.cell (p := ⟨g, 2, none⟩) hg).trans HC2.out
        have rx := hide (HX.out.low hb); have ry := hide (HY.out.low hb); have rz := hide (HZ.out.low hb)
        clear hlow HR1
        match i, hi with
        | 0, _ =>
          have hO2 : Hid (O ++ x = x) := hide (by rw [hO.out]; simp)
          have hOl : Hid (O.length ≤ 0) := hide (by rw [hO.out]; simp)
          go_wp2_with (at_builtin; refine wpList_copy_own rfl _ _ 22 rfl w w.heap.size 5 Tryz.underlying22 (by kernel_rfl) _ O rfl (by exact hrow.out) _ x rfl (by exact rx.out) (by have := hOl.out; omega) ?_; intro a1 co1 w1 hown1 hb1; obtain ⟨n1, hn1⟩ : ∃ n, n = (O ++ x).length := ⟨_, rfl⟩; rw [← hn1] at hown1 ⊢; have N1 := hide hn1; have HO1 := hide hown1; have HB1 := hide hb1; skip; clear hn1 hown1 hb1)
          refine ⟨⟨1, O ++ x, a1, n1, co1, by omega, rfl, rfl, N1, hide (by rw [hO2.out]; simp), HO1⟩, by decide⟩
        | 1, _ =>
          have hO2 : Hid (O ++ y = x ++ y) := hide (by rw [hO.out]; simp)
          have hOl : Hid (O.length ≤ x.length) := hide (by rw [hO.out]; simp)
          go_wp2_with (at_builtin; refine wpList_copy_own rfl _ _ 22 rfl w w.heap.size 5 Tryz.underlying22 (by kernel_rfl) _ O rfl (by exact hrow.out) _ y rfl (by exact ry.out) (by have := hOl.out; omega) ?_; intro a1 co1 w1 hown1 hb1; obtain ⟨n1, hn1⟩ : ∃ n, n = (O ++ y).length := ⟨_, rfl⟩; rw [← hn1] at hown1 ⊢; have N1 := hide hn1; have HO1 := hide hown1; have HB1 := hide hb1; skip; clear hn1 hown1 hb1)
          refine ⟨⟨2, O ++ y, a1, n1, co1, by omega, rfl, rfl, N1, hide (by rw [hO2.out]; simp), HO1⟩, by decide⟩
        | 2, _ =>
          have hO2 : Hid (O ++ z = x ++ y ++ z) := hide (by rw [hO.out]; simp)
          have hOl : Hid (O.length ≤ x.length + y.length) := hide (by rw [hO.out]; simp)
          go_wp2_with (at_builtin; refine wpList_copy_own rfl _ _ 22 rfl w w.heap.size 5 Tryz.underlying22 (by kernel_rfl) _ O rfl (by exact hrow.out) _ z rfl (by exact rz.out) (by have := hOl.out; omega) ?_; intro a1 co1 w1 hown1 hb1; obtain ⟨n1, hn1⟩ : ∃ n, n = (O ++ z).length := ⟨_, rfl⟩; rw [← hn1] at hown1 ⊢; have N1 := hide hn1; have HO1 := hide hown1; have HB1 := hide hb1; skip; clear hn1 hown1 hb1)
          refine ⟨⟨3, O ++ z, a1, n1, co1, by omega, rfl, rfl, N1, hide (by rw [hO2.out]; simp), HO1⟩, by decide⟩
        | 3, _ =>
          have hOe : Hid (O = x ++ y ++ z) := hide (by rw [hO.out]; simp)
          clear c0 c1 c2 hO
          go_wp2
          go_ret
          refine ⟨a, n, c, rfl, ?_, by rw [← hOe.out]; exact hn.out, hb⟩
          have h1 := hrow.out.1
          rw [← hn.out, hOe.out] at h1
          exact h1
end Go.Proofs.YtglgjakjhkdoaaaGreatDoor

namespace Go.Proofs.YtglgjakjhkdoaaaGreatDoor
open Go.RowKit Go.Maps
set_option linter.unusedVariables false
set_option linter.unusedSimpArgs false

def keptB (K : List Bool) (i : Nat) : Bool := (K[i]?).getD false
def lastK (K : List Bool) : Nat → Int
  | 0 => -1
  | n + 1 => if keptB K n then n else lastK K n
def tornB (torn last : Int) (i : Nat) (b : Bs) : Bs := if (i : Int) = last ∧ 0 ≤ torn ∧ torn < b.length then b.take torn.toNat else b
def gapOf (k : Bs) (G : List (Bs × Int)) : Int := (mget k G).getD 0
def crashStep (K : List Bool) (torn last : Int) (i : Nat) (p : Bs × Bs) (st : List (Bs × Bs) × List (Bs × Int)) : List (Bs × Bs) × List (Bs × Int) :=
  if keptB K i then (mput strL p.1 ((mget p.1 st.1).getD [] ++ List.replicate (gapOf p.1 st.2).toNat 0 ++ tornB torn last i p.2) st.1, mput strL p.1 0 st.2)
  else (st.1, mput strL p.1 (gapOf p.1 st.2 + p.2.length) st.2)
def crashTo (K : List Bool) (torn last : Int) (L : List (Bs × Bs)) (F : List (Bs × Bs)) : Nat → List (Bs × Bs) × List (Bs × Int)
  | 0 => (F, [])
  | n + 1 => match L[n]? with
    | some p => crashStep K torn last n p (crashTo K torn last L F n)
    | none => crashTo K torn last L F n
def fsCrash (s : FsS) (K : List Bool) (torn : Int) : FsS :=
  { s with files := (crashTo K torn (lastK K s.waits.length) s.waits s.files s.waits.length).1, waits := [], left := none, halted := false }

def RdK (w : World) (x : Value) (K : List Bool) : Prop := Rd w x 1 K.length (K.map Value.bool)
theorem RdK.low {w w' : World} {x : Value} {K : List Bool} (h : RdK w x K) (hb : Below w.heap.size w w') : RdK w' x K := Rd.low h hb
theorem RdK.chg0 {w w' : World} {a : Option Addr} {n c : Nat} {K : List Bool} {F F' : List Nat} (h : RdK w (.slice a n c) K) (hn : n = K.length) (hc : Chg F F' w w') (hd : 0 < n → ∀ k, (Value.slice a n c).ownBlock = some k → k ∉ F) : RdK w' (.slice a n c) K := by
  by_cases h0 : 0 < n
  · exact Rd.chg h hc (hd h0)
  · have hK : K = [] := List.eq_nil_of_length_eq_zero (by omega)
    subst hK
    refine ⟨h.1, h.2.imp id ?_⟩
    rintro ⟨ad, c', h1, _⟩
    exact ⟨ad, c', h1, fun j u hu => by simp at hu⟩
theorem RdK.at {w : World} {x : Value} {K : List Bool} (h : RdK w x K) {k : Nat} (hk : k < K.length) : ∃ b off c, x = .slice (some ⟨b, off, none⟩) K.length c ∧ w.cell? ⟨b, off + k, none⟩ = some (.bool K[k]) ∧ b < w.heap.size := by
  obtain ⟨b, off, c, rfl, hc, hb⟩ := Rd.addr h (by omega) (by omega)
  exact ⟨b, off, c, rfl, hc k _ (by simp [hk]), hb⟩

set_option maxRecDepth 100000 in
set_option maxHeartbeats 800000 in
theorem fs_keeps (a : Option Addr) (n c : Nat) (torn : Int) (K : List Bool) (i : Nat) (w : World) (hx : RdK w (.slice a n c) K) (hn : n = K.length) (hl : n ≤ 1048576) (hi : i ≤ 1048576) :
    Calls Tryz.prog 59 #[.agg #[.slice a n c, .int .i64 torn], .int .i64 i] w fun e w' => e = .returned (.bool (keptB K i)) ∧ Below w.heap.size w w' := by
  have hb := below_alloc w (.cells #[.slice a n c, .int .i64 torn] 45)
  have HB := hide hb
  have HX := hide (hx.low hb)
  by_cases hin : i < n
  · have i0 : (i : Int) < n := by omega
    obtain ⟨bb, off, cc, he, hc, hlt⟩ := RdK.at HX.out (k := i) (by omega)
    simp only [Value.slice.injEq] at he
    obtain ⟨rfl, -⟩ := he
    have hk : keptB K i = K[i]'(by omega) := by unfold keptB; rw [List.getElem?_eq_getElem (by omega)]; rfl
    rw [hk]
    generalize K[i]'(by omega) = y at hc
    clear hk hx hb hn HX
    go_enter Tryz.func59, Tryz.ntmps59
    go_wp2
    go_ret
    exact ⟨rfl, HB.out⟩
  · have i0 : ¬ ((i : Int) < n) := by omega
    have hk : keptB K i = false := by unfold keptB; rw [List.getElem?_eq_none (by omega)]; rfl
    rw [hk]
    clear hk hx hb hn HX
    go_enter Tryz.func59, Tryz.ntmps59
    go_wp2
    go_ret
    exact ⟨rfl, HB.out⟩
end Go.Proofs.YtglgjakjhkdoaaaGreatDoor

namespace Go.Proofs.YtglgjakjhkdoaaaGreatDoor
open Go.RowKit Go.ChangeShapes Go.WideShapes Go.ChangeAt Go.Deep
set_option linter.unusedVariables false
set_option linter.unusedSimpArgs false

theorem open_bools {H : Type} {enc : TypeId × Value → H} {W : World} {fuel : Nat} {cs : List Value} {x : DataW H × List MemPlace} (h : DataW.trod enc Tryz.prog W 0 (fun _ => true) true fuel 43 cs = some x) :
    ∃ (a : Option Addr) (n c : Nat) (K : List Bool), cs = [.slice a n c] ∧ RdK W (.slice a n c) K ∧ n = K.length := by
  rcases open_slice Tryz.underlying43 h with ⟨rfl, _⟩ | ⟨a, len, cap, m, n, D, Pl, rfl, _, hl, hm, hmm, _, hi⟩
  · exact ⟨_, _, _, [], rfl, ⟨by simp, .inl ⟨rfl, rfl⟩⟩, rfl⟩
  simp only [if_true] at hmm
  have hC : Tryz.prog.cellsOf 4 = 1 := by kernel_rfl
  have key : ∀ i, i < len → ∃ y : Bool, W.cell? (a.add i) = some (.bool y) := by
    intro i hi'
    obtain ⟨cs', hc, ht⟩ := hi i (by omega)
    rw [hC, Nat.mul_one] at hc
    obtain ⟨_, hcl, hat⟩ := World.cells?_some hc
    obtain ⟨z, rfl, _⟩ := DataW.trod_bool Tryz.underlying4 ht
    have h0 := hat 0 (by omega)
    exact ⟨z, by simpa [Addr.add] using h0⟩
  obtain ⟨b, hbl, hb⟩ := list_of_key len key
  subst hbl
  refine ⟨_, _, _, b, rfl, ⟨by simp, .inr ⟨a, cap, rfl, fun j u hu => ?_⟩⟩, rfl⟩
  simp only [List.getElem?_map, Option.map_eq_some_iff] at hu
  obtain ⟨y, hy, rfl⟩ := hu
  obtain ⟨hj, rfl⟩ := List.getElem?_eq_some_iff.1 hy
  exact hb j hj

set_option maxRecDepth 100000 in
theorem open_loss {H : Type} {enc : TypeId × Value → H} {W : World} {base : Nat} {v : Value} {d : DataW H} {p : List MemPlace} (hv : Value.okWide Tryz.prog W .any base 45 v) (h : DataW.Trod enc Tryz.prog W 0 (fun _ => true) true 45 v d p) :
    ∃ (a : Option Addr) (n c : Nat) (K : List Bool) (t : Int), v = .agg #[.slice a n c, .int .i64 t] ∧ RdK W (.slice a n c) K ∧ n = K.length ∧ -9223372036854775808 ≤ t ∧ t ≤ 9223372036854775807 := by
  obtain ⟨cs, rfl, hsz⟩ := okWide_struct Tryz.underlying45 hv
  obtain ⟨l⟩ := cs
  have k25 : Tryz.prog.cellsOf 45 = 2 := by kernel_rfl
  have k23 : Tryz.prog.cellsOf 43 = 1 := by kernel_rfl
  have k3 : Tryz.prog.cellsOf 3 = 1 := by kernel_rfl
  match l, hsz.trans k25 with
  | [x0, x1], _ =>
    obtain ⟨fuel, hf⟩ := h
    obtain ⟨xs, n, _, _, _, hlen, hg⟩ := DataW.trod_struct Tryz.underlying45 hf
    match xs, hlen with
    | [y0, y1], _ =>
      obtain ⟨a, m, c, K, e0, hr, hm⟩ := open_bools (by simpa [Value.cells, k23] using hg 0 _ rfl : DataW.trod enc Tryz.prog W 0 (fun _ => true) true n 43 [x0] = some y0)
      obtain ⟨z, e1, _, w1⟩ := DataW.trod_int Tryz.underlying3 (by simpa [Value.cells, k3] using hg 1 _ rfl : DataW.trod enc Tryz.prog W 0 (fun _ => true) true n 3 [x1] = some y1)
      simp only [List.cons.injEq, and_true] at e0 e1
      subst e0 e1
      exact ⟨a, m, c, K, z, rfl, hr, hm, (wf_i64 w1).1, (wf_i64 w1).2⟩
theorem loss_box {W : World} {a2 : Option Addr} {n2 c2 : Nat} {t2 : Int} : ∀ WB, WB = W.alloc (.cells #[.slice a2 n2 c2, .int .i64 t2] 45) → Below W.heap.size W WB ∧ WB.heap.size = W.heap.size + 1 ∧ ∀ w', Below WB.heap.size WB w' → w'.cell? ⟨W.heap.size, 0, none⟩ = some (.slice a2 n2 c2) ∧ w'.cell? ⟨W.heap.size, 1, none⟩ = some (.int .i64 t2) := by
  rintro WB rfl
  refine ⟨below_alloc _ _, by simp, fun w' hw => ?_⟩
  have g1 := (hw.block W.heap.size (by simp)).trans (heap_alloc_at W _)
  simp [World.cell?, g1]
theorem RdK.lowK {W : World} {a2 : Option Addr} {n2 c2 : Nat} {K2 : List Bool} (h : RdK W (.slice a2 n2 c2) K2) (hn : n2 = K2.length) : 0 < n2 → ∀ k, (Value.slice a2 n2 c2).ownBlock = some k → k < W.heap.size := fun hp k hk => by
  obtain ⟨bb, off, cc, he, _, hb⟩ := RdK.at h (k := 0) (by omega)
  simp only [Value.slice.injEq] at he
  obtain ⟨rfl, -⟩ := he
  simp only [Value.ownBlock, Option.some.injEq] at hk
  omega
end Go.Proofs.YtglgjakjhkdoaaaGreatDoor
