/-
  The walks of a file system's Cut, Halt, Halted, Rename.
-/
import Derived.Test.YtglgjakjhkdoaaaGreatDoorZFsNFsOA
namespace Go.Proofs.YtglgjakjhkdoaaaGreatDoor
open Go.RowKit Go.Maps
set_option linter.unusedVariables false
set_option linter.unusedSimpArgs false

theorem fs_Halted (sb : Nat) (s : FsS) (F : List Nat) (w : World) (h : FsRep w sb s F) : Calls Tryz.prog 43 #[.pointer (some ⟨sb, 0, none⟩)] w fun e w' => e = .returned (.bool s.halted) ∧ w = w' := by
  obtain ⟨mb, wv, lp, E, L, h, rfl⟩ := h
  obtain ⟨c0, c1, c2, c3, c4, fz⟩ := fs_cells h.blk
  clear h c0 c1 c2 c3 fz
  go_enter Tryz.func43, Tryz.ntmps43
  go_wp2
  go_ret
  exact ⟨rfl, rfl⟩

theorem halt_close {w W : World} {sb mb : Nat} {s : FsS} {n m : Int} {wv : Value} {lp : Option Nat} {E L : List (Bs × Ent)} (h : FsIn w sb s mb wv lp E L) (hm : m = max n 0) (hos : W.os = w.os) (hta : W.tape = w.tape) (hou : W.output = w.output) (hsz : W.heap.size = w.heap.size + 1)
    (hblk : W.heap[sb]? = some (.cells #[.int .i64 s.room, .map (some mb), wv, .pointer (some ⟨w.heap.size, 0, none⟩), .bool s.halted] 59 (0, 0))) (hnew : W.heap[w.heap.size]? = some (.cells #[.int .i64 m] 3 (0, 0)))
    (ho : ∀ k, k < w.heap.size → k ≠ sb → W.heap[k]? = w.heap[k]?) : FsTo w sb (fpOf (muts sb mb wv lp) (E ++ L)) (fsHalt s n) W := by
  obtain ⟨n1, n2, n3⟩ := h.ne
  have hlt := h.mut_lt
  have hmb := hlt mb (by simp [muts])
  have hsb2 := hlt sb (by simp [muts])
  refine h.to (s' := fsHalt s n) (mb' := mb) (wv' := wv) (lp' := some w.heap.size) (E' := E) (L' := L) ⟨hblk, h.map.same (ho mb hmb n1), ownsRow_same h.row fun b hb' => ho b (h.row.lt b hb').2 (n2 b hb').1, ?_, h.files, h.waits, fun p hp => ?_, ?_⟩ hos hta hou (by omega) (fun k hk hm => ho k hk fun e => hm (by simp [muts, e])) (fun k hk => ?_) (fun p hp k hk => .inl ⟨p, hp, hk⟩)
  · show W.heap[w.heap.size]? = some (.cells #[.int .i64 (max n 0)] 3 (0, 0))
    rw [← hm]
    exact hnew
  · have g1 := h.ent p hp
    have g3 := g1.same (w' := W) (fun k hk => ho k (g1.far k hk).2 fun e => (g1.far k hk).1 (by simp [muts, e])) (by omega)
    refine ⟨g3.rd, g3.n, g3.le, g3.cap, fun k hk => ⟨fun hm => ?_, (g3.far k hk).2⟩⟩
    have q1 := g1.far k hk
    simp only [muts, List.mem_cons, List.mem_append, Option.mem_toList] at hm q1
    rcases hm with h5 | h5 | h5 | h5
    · exact q1.1 (.inl h5)
    · exact q1.1 (.inr (.inl h5))
    · exact q1.1 (.inr (.inr (.inl h5)))
    · simp only [Option.some.injEq] at h5
      omega
  · have h5 := h.nd
    unfold muts at h5 ⊢
    simp only [List.nodup_cons, List.mem_cons, List.mem_append, Option.mem_toList, not_or, List.nodup_append] at h5 ⊢
    obtain ⟨⟨a1, a2, a3⟩, ⟨a4, a5⟩, a6, a7, a8⟩ := h5
    refine ⟨⟨a1, a2, fun e => by simp only [Option.some.injEq] at e; omega⟩, ⟨a4, fun e => by simp only [Option.some.injEq] at e; omega⟩, a6, by simp, fun x hx y hy e => ?_⟩
    subst e
    simp only [Option.some.injEq] at hx hy
    have := (h.row.lt x hx).2
    omega
  · simp only [muts, List.mem_cons, List.mem_append, Option.mem_toList] at hk ⊢
    rcases hk with h5 | h5 | h5 | h5
    · exact .inl (.inl h5)
    · exact .inl (.inr (.inl h5))
    · exact .inl (.inr (.inr (.inl h5)))
    · simp only [Option.some.injEq] at h5
      exact .inr (by omega)
theorem halt_world {w : World} {sb : Nat} {m r : Int} {v1 v2 v3 : Value} {b : Bool} {t e : TypeId} (h : w.heap[sb]? = some (.cells #[.int .i64 r, v1, v2, v3, .bool b] t (0, 0))) (v : Value) :
    ∀ W, W = (w.setCell ⟨sb, 3, none⟩ v).alloc (.cells #[.int .i64 m] e) → W.os = w.os ∧ W.tape = w.tape ∧ W.output = w.output ∧ W.heap.size = w.heap.size + 1 ∧ W.heap[sb]? = some (.cells #[.int .i64 r, v1, v2, v, .bool b] t (0, 0)) ∧ W.heap[w.heap.size]? = some (.cells #[.int .i64 m] e (0, 0)) ∧ ∀ k, k < w.heap.size → k ≠ sb → W.heap[k]? = w.heap[k]? := by
  rintro W rfl
  have hsb := (Array.getElem?_eq_some_iff.1 h).1
  have hsz : (w.setCell ⟨sb, 3, none⟩ v).heap.size = w.heap.size := by simp [World.setCell]
  refine ⟨rfl, rfl, rfl, by simp [World.setCell], ?_, ?_, fun k hk hn => ?_⟩
  · rw [Below.heap_alloc _ _ _ (by rw [hsz]; exact hsb), setCell_heap h 3 v]
    simp
  · have := heap_alloc_at (w.setCell ⟨sb, 3, none⟩ v) (.cells #[.int .i64 m] e)
    rw [hsz] at this
    exact this
  · rw [Below.heap_alloc _ _ _ (by rw [hsz]; exact hk), heap_set_ne hn]

set_option maxRecDepth 100000 in
set_option maxHeartbeats 800000 in
theorem fs_Halt (sb : Nat) (s : FsS) (F : List Nat) (n : Int) (w : World) (h : FsRep w sb s F) :
    Calls Tryz.prog 34 #[.pointer (some ⟨sb, 0, none⟩), .int .i64 n] w fun e w' => e = .returned (.tuple #[]) ∧ FsTo w sb F (fsHalt s n) w' := by
  obtain ⟨mb, wv, lp, E, L, h, rfl⟩ := h
  obtain ⟨c0, c1, c2, c3, c4, fz⟩ := fs_cells h.blk
  have hsb := (Array.getElem?_eq_some_iff.1 h.blk).1
  have H := hide h
  have f3 := fz 3
  by_cases hn : n < 0
  · have hb1 := below_alloc w (.cells #[.int .i64 0] 3)
    have d3 := (hb1.cell (p := ⟨sb, 3, none⟩) hsb).trans c3
    have g3 := (hb1.frozen (p := ⟨sb, 3, none⟩) hsb).trans f3
    have HN2 := hide (show max n 0 = 0 by omega)
    clear h c0 c1 c2 c4 fz hb1
    go_enter Tryz.func34, Tryz.ntmps34
    go_wp2
    go_end0
    refine ⟨rfl, ?_⟩
    try rw [HN2.out]
    obtain ⟨q1, q2, q3, q4, q5, q6, q7⟩ := halt_world H.out.blk (.pointer (some ⟨w.heap.size, 0, none⟩)) _ rfl
    exact halt_close H.out (show (0 : Int) = max n 0 by omega) q1 q2 q3 q4 q5 q6 q7
  · have hb1 := below_alloc w (.cells #[.int .i64 n] 3)
    have d3 := (hb1.cell (p := ⟨sb, 3, none⟩) hsb).trans c3
    have g3 := (hb1.frozen (p := ⟨sb, 3, none⟩) hsb).trans f3
    have HM := hide (show n = max n 0 by omega)
    have hn2 : max n 0 = n := by omega
    clear h c0 c1 c2 c4 fz hb1
    go_enter Tryz.func34, Tryz.ntmps34
    go_wp2
    all_goals
      go_end0
      refine ⟨rfl, ?_⟩
      obtain ⟨q1, q2, q3, q4, q5, q6, q7⟩ := halt_world H.out.blk (.pointer (some ⟨w.heap.size, 0, none⟩)) _ rfl
      exact halt_close H.out HM.out q1 q2 q3 q4 q5 q6 q7

theorem FsIn.nameTo {w : World} {sb mb g c : Nat} {s s' : FsS} {lp : Option Nat} {E L : List (Bs × Ent)} (h : FsIn w sb s mb (.slice (some ⟨g, 0, none⟩) L.length c) lp E L) {i : Nat} (hi : i < L.length) (b : Bs) (hr : s'.room = s.room) (hh : s'.halted = s.halted) (hl : s'.left = s.left) (hf : s'.files = s.files)
    (hw : s'.waits = (L.set i (b, L[i].2)).map ct) : FsIn (w.setCell ⟨g, i * 2, none⟩ (.string ⟨b.toArray⟩)) sb s' mb (.slice (some ⟨g, 0, none⟩) (L.set i (b, L[i].2)).length c) lp E (L.set i (b, L[i].2)) := by
  obtain ⟨n1, n2, n3⟩ := h.ne
  have hg := n2 g rfl
  have hb : ∀ k, k ≠ g → (w.setCell ⟨g, i * 2, none⟩ (.string ⟨b.toArray⟩)).heap[k]? = w.heap[k]? := fun k hk => heap_set_ne hk
  have hsz : (w.setCell ⟨g, i * 2, none⟩ (.string ⟨b.toArray⟩)).heap.size = w.heap.size := by simp [World.setCell]
  have hM : muts sb mb (.slice (some ⟨g, 0, none⟩) (L.set i (b, L[i].2)).length c) lp = muts sb mb (.slice (some ⟨g, 0, none⟩) L.length c) lp := rfl
  have hent : ∀ p ∈ E ++ L, EntOk (w.setCell ⟨g, i * 2, none⟩ (.string ⟨b.toArray⟩)) (muts sb mb (.slice (some ⟨g, 0, none⟩) L.length c) lp) p.2 := fun p hp =>
    (h.ent p hp).same (fun k hk => hb k fun e => ((h.ent p hp).far k hk).1 (by simp [muts, Value.ownBlock, e])) (by rw [hsz]; exact Nat.le_refl _)
  refine ⟨?_, h.map.same (hb mb (Ne.symm hg.2)), ?_, ?_, hf.trans h.files, hw, fun p hp => ?_, by rw [hM]; exact h.nd⟩
  · rw [hb sb (Ne.symm hg.1), hr, hh, List.length_set]
    exact h.blk
  · have h1 := (h.row.stored (i * 2) (.string ⟨b.toArray⟩)).1
    have e : (eflat L).set (i * 2) (.string ⟨b.toArray⟩) = eflat (L.set i (b, L[i].2)) := by
      rw [eflat_set L i hi]
      have hlt : i * 2 + 1 < (eflat L).length := by rw [eflat_length]; omega
      have hget : (eflat L)[i * 2 + 1] = L[i].2.v := by
        have := (eflat_get hi).2
        rw [Nat.mul_comm, List.getElem?_eq_getElem hlt] at this
        exact Option.some.inj this
      rw [← hget]
      apply List.ext_getElem
      · simp
      · intro j h1 h2
        simp only [List.getElem_set]
        split
        · rename_i e1
          split
          · omega
          · rfl
        · split
          · rename_i e1 e2
            subst e2
            rfl
          · rfl
    rw [e] at h1
    rw [List.length_set]
    exact h1
  · rw [hl]
    exact h.left.same fun k hk => hb k fun e => (n3 k hk).2.2 (by rw [e]; rfl)
  · rw [hM]
    rcases List.mem_append.1 hp with hp | hp
    · exact hent p (List.mem_append_left _ hp)
    · rcases List.mem_or_eq_of_mem_set hp with hp | rfl
      · exact hent p (List.mem_append_right _ hp)
      · exact hent L[i] (List.mem_append_right _ (List.getElem_mem hi))

set_option maxRecDepth 100000 in
set_option maxHeartbeats 1600000 in
theorem fs_Cut (sb : Nat) (s : FsS) (F : List Nat) (k : Bs) (hk : k.length ≤ maxLen) (n : Int) (w : World) (h : FsRep w sb s F) (ok : s.Ok) :
    Calls Tryz.prog 47 #[.pointer (some ⟨sb, 0, none⟩), .string ⟨k.toArray⟩, .int .i64 n] w fun e w' => e = .returned (.int .u16 (fsCut s k n).1) ∧ FsTo w sb F (fsCut s k n).2 w' := by
  have H := hide h
  have OK := hide ok
  clear h ok
  cases hh : s.has k with
  | false =>
    have e : fsCut s k n = (80, s) := by simp [fsCut, hh]
    rw [e]
    clear e
    go_enter Tryz.func47, Tryz.ntmps47
    go_wp2_with fail
    refine (fs_Read sb s F k hk w H.out OK.out).mono ?_
    rintro e w1 hr
    unfold ReadTold at hr
    rw [hh, if_neg (by simp)] at hr
    obtain ⟨rfl, rfl⟩ := hr
    go_wp2
    go_ret
    exact ⟨rfl, FsTo.refl H.out⟩
  | true =>
    by_cases hn : n < 0 ∨ (s.get k).length < n
    · have e : fsCut s k n = (1, s) := by simp [fsCut, hh, hn]
      rw [e]
      clear e
      go_enter Tryz.func47, Tryz.ntmps47
      go_wp2_with fail
      refine (fs_Read sb s F k hk w H.out OK.out).mono ?_
      rintro e w1 hr
      unfold ReadTold at hr
      rw [hh, if_pos rfl] at hr
      obtain ⟨a, m, c, rfl, hf⟩ := hr
      have hfin := hide (Chg.of_below (F := F) hf.2.2)
      have HL := hide (H.out.low hf.2.2)
      have hm := hf.2.1
      rw [← hm] at hn
      clear hf hm
      by_cases hneg : n < 0
      · go_wp2
        go_ret
        exact ⟨rfl, _, HL.out, hfin.out⟩
      · have hgt : (m : Int) < n := by omega
        clear hn
        go_wp2
        go_ret
        exact ⟨rfl, _, HL.out, hfin.out⟩
    · have i0 : ¬ n < 0 := fun h => hn (.inl h)
      have i1 : ¬ ((s.get k).length : Int) < n := fun h => hn (.inr h)
      cases hg : s.go with
      | false =>
        have e : fsCut s k n = (0, s.went) := by unfold fsCut; rw [if_neg (by simp [hh]), if_neg hn, if_neg (by simp [hg])]
        rw [e]
        clear e hn
        go_enter Tryz.func47, Tryz.ntmps47
        go_wp2_with fail
        refine (fs_Read sb s F k hk w H.out OK.out).mono ?_
        rintro e w1 hr
        unfold ReadTold at hr
        rw [hh, if_pos rfl] at hr
        obtain ⟨a, m, c, rfl, hf⟩ := hr
        have HF := hide hf
        have i2 : ¬ ((m : Int) < n) := by have := hf.2.1; omega
        clear hf i1
        go_wp2_with fail
        refine (fs_goes sb s F w1 (H.out.low HF.out.2.2) OK.out.left0).mono ?_
        rintro e w2 ⟨rfl, ht⟩
        rw [hg]
        have HT := hide ht
        clear ht hg
        go_wp2
        go_ret
        obtain ⟨F2, hF2, hC2⟩ := HT.out
        exact ⟨rfl, F2, hF2, (Chg.of_below HF.out.2.2).trans hC2⟩
      | true =>
        have e : fsCut s k n = (0, { s.went with files := mput strL k ((s.get k).take n.toNat) s.files, waits := forgotten k s.waits }) := by unfold fsCut; rw [if_neg (by simp [hh]), if_neg hn, if_pos hg]
        rw [e]
        obtain ⟨q, rfl⟩ : ∃ q : Nat, n = q := ⟨n.toNat, by omega⟩
        simp only [Int.toNat_natCast]
        obtain ⟨s3, hs3⟩ : ∃ s3, s3 = ({ s.went with files := mput strL k ((s.get k).take q) s.files } : FsS) := ⟨_, rfl⟩
        obtain ⟨e1, e2, e3⟩ := went_parts s
        have hs4 : ({ s.went with files := mput strL k ((s.get k).take q) s.files, waits := forgotten k s.waits } : FsS) = { s3 with waits := forgotten k s3.waits } := by rw [hs3, e3]
        rw [hs4]
        have HS3 := hide hs3
        have E2 := hide e2; have E3 := hide e3
        clear e hs4 hs3 e1 e2 e3 hn
        go_enter Tryz.func47, Tryz.ntmps47
        go_wp2_with fail
        refine (fs_Read sb s F k hk w H.out OK.out).mono ?_
        rintro e w1 hr
        unfold ReadTold at hr
        rw [hh, if_pos rfl] at hr
        obtain ⟨a, m, c, rfl, hf⟩ := hr
        have HF := hide hf
        have i2 : ¬ ((m : Int) < q) := by have := hf.2.1; omega
        have hmc := hf.cap.1
        have i3 : (q : Int) ≤ c := by omega
        have hqm : q ≤ m := by omega
        clear hf i1
        go_wp2_with fail
        refine (fs_goes sb s F w1 (H.out.low HF.out.2.2) OK.out.left0).mono ?_
        rintro e w2 ⟨rfl, ht⟩
        rw [hg]
        obtain ⟨F2, hr2, hC2⟩ := ht
        have HC2 := hide hC2
        obtain ⟨mb, wv, lp, E, L, h2, rfl⟩ := hr2
        obtain ⟨c0, c1, c2, c3, c4, fz⟩ := fs_cells h2.blk
        have hsb2 := (Array.getElem?_eq_some_iff.1 h2.blk).1
        have hent := HF.out.stays H.out.lt hC2 (M := muts sb mb wv lp) fun k hk => mem_fpOf.2 (.inl hk)
        have hE1 : E.length < maxLen := by
          have h3 := files_len h2
          rw [E2.out] at h3
          have := OK.out.few
          unfold maxLen
          omega
        have H2 := hide h2
        have HC1 := hide c1
        have HENT := hide hent
        clear hC2 h2 c0 c1 c2 c3 c4 fz hent hg
        obtain ⟨a9, hcut⟩ : ∃ a9 : Ent, Hid (a9.b = (s.get k).take q ∧ ((a = none ∧ q = 0 ∧ c = 0 ∧ a9.v = .slice none 0 0) ∨ ∃ ad, a = some ad ∧ a9.v = .slice (some ad) q q) ∧ ∀ W, (∀ j, (Value.slice a m c).ownBlock = some j → W.heap[j]? = w2.heap[j]?) → w2.heap.size ≤ W.heap.size → EntOk W (muts sb mb wv lp) a9) := by
          cases a with
          | none =>
            rcases HENT.out.1.rd.2 with ⟨h5, h6⟩ | ⟨ad, cc, h5, _⟩
            · simp only [Ent.v, Value.slice.injEq, true_and] at h5
              have hl0 : (s.get k).length = 0 := h6
              have hg0 : s.get k = [] := List.eq_nil_of_length_eq_zero hl0
              exact ⟨⟨[], none, 0, 0⟩, hide ⟨by rw [hg0]; simp, .inl ⟨rfl, by omega, by omega, rfl⟩, fun W _ _ => entNil W _⟩⟩
            · simp [Ent.v] at h5
          | some ad =>
            refine ⟨⟨(s.get k).take q, some ad, q, q⟩, hide ⟨rfl, .inr ⟨ad, rfl, rfl⟩, fun W hW hs => ?_⟩⟩
            have h6 := HENT.out.1
            have h7 := h6.same (w' := W) hW hs
            have h8 := HF.out.2.1
            have h9 := h6.cap
            have hq2 : q = ((s.get k).take q).length := by rw [List.length_take]; omega
            have hq3 : q ≤ 9223372036854775807 := by
              have : c ≤ 9223372036854775807 := h9
              omega
            exact ⟨RdB.upto h7.rd h7.n q q q hq2, hq2, Nat.le_refl _, hq3, fun j hj => h7.far j hj⟩
        rcases hcut.out.2.1 with ⟨rfl, rfl, rfl, hv⟩ | ⟨ad, rfl, hv⟩
        · have HV := hide hv
          clear hv
          go_wp2_with fail
          refine wp_region_three 9 41 (by kernel_rfl) (by kernel_rfl) rfl (by kernel_rfl) (fun D v w' => Below w2.heap.size w2 w') (fun _ => undef) (Below.refl _ _).drew ?_
          simp only [List.take_succ_cons, List.take_zero, List.drop_succ_cons, List.drop_zero]
          iterate 9 (refine Hav3.read (e := ?_) (fun v => by rfl) (fun D v w h => h) (fun D v w' hD hS => ?_) ?_; rotate_left; (have x1 : w'.cell? ⟨sb, 1, none⟩ = some (.map (some mb)) := (hS.cell (p := ⟨sb, 1, none⟩) hsb2).trans HC1.out; clear hS hD; first | (go_simp; done) | (go_simp; with_reducible rfl)); go_simp)
          refine Hav3.fin (fun v w3 hS => ?_)
          have HS := hide hS
          have hm3 := hide (H2.out.map.low hS)
          have hent3 : Hid (EntOk w3 (muts sb mb wv lp) a9 ∧ ∀ k, a9.v.ownBlock = some k → w.heap.size ≤ k) := hide (by
            refine ⟨hcut.out.2.2 w3 (fun j hj => hS.block j (HENT.out.1.far j hj).2) hS.size, fun k hk => ?_⟩
            rw [HV.out] at hk
            first | (cases hk; done) | exact HENT.out.2 k hk)
          clear hS
          go_wp2_with (at_mapUpdate; refine wpList_mput keysFs rfl _ _ _ 55 rfl 22 Tryz.underlying55 rfl hm3.out hE1 k rfl hk a9 (by show Value.slice none 0 0 = Ent.v a9; exact HV.out.symm) rfl ?_; intro w4 hm4 hg4 hs4; have HM4 := hide hm4; have HG4 := hide hg4; clear hm4 hg4 hs4)
          have h3 := (H2.out.low HS.out).mapChg (s' := s3) (((Chg.of_below HF.out.2.2).trans HC2.out).trans (Chg.of_below HS.out)) HM4.out HG4.out (by rw [HS3.out]) (by rw [HS3.out]) (by rw [HS3.out]) (by rw [HS3.out, ← E2.out, ← hcut.out.1]; exact mput_files H2.out k a9) (by rw [HS3.out]) (fun p hp => by
            rcases (mput_mem _ _ _ _ _).1 hp with rfl | hp
            · exact .inr ⟨hent3.out.1, fun k hk => .inr (hent3.out.2 k hk)⟩
            · exact .inl hp.1)
          obtain ⟨F3, hF3, hC3⟩ := h3
          have HC3 := hide hC3
          refine (fs_forget sb s3 F3 k w4 hF3 (by rw [HS3.out]; show s.went.waits.length ≤ 1048576; rw [E3.out]; exact OK.out.waits_le)).mono ?_
          rintro e w5 ⟨rfl, ht5⟩
          have HT5 := hide ht5
          clear ht5 hF3 hC3
          go_wp2
          go_ret
          obtain ⟨F5, hF5, hC5⟩ := HT5.out
          exact ⟨rfl, F5, hF5, HC3.out.trans hC5⟩
        · have HV := hide hv
          clear hv
          go_wp2_with fail
          refine wp_region_three 9 41 (by kernel_rfl) (by kernel_rfl) rfl (by kernel_rfl) (fun D v w' => Below w2.heap.size w2 w') (fun _ => undef) (Below.refl _ _).drew ?_
          simp only [List.take_succ_cons, List.take_zero, List.drop_succ_cons, List.drop_zero]
          iterate 9 (refine Hav3.read (e := ?_) (fun v => by rfl) (fun D v w h => h) (fun D v w' hD hS => ?_) ?_; rotate_left; (have x1 : w'.cell? ⟨sb, 1, none⟩ = some (.map (some mb)) := (hS.cell (p := ⟨sb, 1, none⟩) hsb2).trans HC1.out; clear hS hD; first | (go_simp; done) | (go_simp; with_reducible rfl)); go_simp)
          refine Hav3.fin (fun v w3 hS => ?_)
          have HS := hide hS
          have hm3 := hide (H2.out.map.low hS)
          have hent3 : Hid (EntOk w3 (muts sb mb wv lp) a9 ∧ ∀ k, a9.v.ownBlock = some k → w.heap.size ≤ k) := hide (by
            refine ⟨hcut.out.2.2 w3 (fun j hj => hS.block j (HENT.out.1.far j hj).2) hS.size, fun k hk => ?_⟩
            rw [HV.out] at hk
            first | (cases hk; done) | exact HENT.out.2 k hk)
          clear hS
          go_wp2_with (at_mapUpdate; refine wpList_mput keysFs rfl _ _ _ 55 rfl 22 Tryz.underlying55 rfl hm3.out hE1 k rfl hk a9 (by show Value.slice (some ad) q q = Ent.v a9; exact HV.out.symm) rfl ?_; intro w4 hm4 hg4 hs4; have HM4 := hide hm4; have HG4 := hide hg4; clear hm4 hg4 hs4)
          have h3 := (H2.out.low HS.out).mapChg (s' := s3) (((Chg.of_below HF.out.2.2).trans HC2.out).trans (Chg.of_below HS.out)) HM4.out HG4.out (by rw [HS3.out]) (by rw [HS3.out]) (by rw [HS3.out]) (by rw [HS3.out, ← E2.out, ← hcut.out.1]; exact mput_files H2.out k a9) (by rw [HS3.out]) (fun p hp => by
            rcases (mput_mem _ _ _ _ _).1 hp with rfl | hp
            · exact .inr ⟨hent3.out.1, fun k hk => .inr (hent3.out.2 k hk)⟩
            · exact .inl hp.1)
          obtain ⟨F3, hF3, hC3⟩ := h3
          have HC3 := hide hC3
          refine (fs_forget sb s3 F3 k w4 hF3 (by rw [HS3.out]; show s.went.waits.length ≤ 1048576; rw [E3.out]; exact OK.out.waits_le)).mono ?_
          rintro e w5 ⟨rfl, ht5⟩
          have HT5 := hide ht5
          clear ht5 hF3 hC3
          go_wp2
          go_ret
          obtain ⟨F5, hF5, hC5⟩ := HT5.out
          exact ⟨rfl, F5, hF5, HC3.out.trans hC5⟩
end Go.Proofs.YtglgjakjhkdoaaaGreatDoor
