/-
  The walks of the laws' Files, SameFiles.
-/
import Derived.Test.YtglgjakjhkdoaaaGreatDoorZFsLFsU
namespace Go.Proofs.YtglgjakjhkdoaaaGreatDoor
open Go.RowKit Go.Maps
set_option linter.unusedVariables false
set_option linter.unusedSimpArgs false

theorem refFile_info : (Tryz.prog.info? 72).map (fun i => (i.zero, i.size, i.bytes)) = some (some (.agg #[.string ⟨#[]⟩, .slice none 0 0]), 2, 40) := by kernel_rfl

theorem FilesAt.get {B : Nat} {t : TypeId} {w : World} {a : Option Addr} {n c : Nat} {L : List (Bs × Ent)} (h : FilesAt B t w (.slice a n c) L) (hn : n = L.length) {i : Nat} (hi : i < n) :
    ∃ g k b pa pn pc, a = some ⟨g, 0, none⟩ ∧ L[i]? = some (k, ⟨b, pa, pn, pc⟩) ∧ w.cell? ⟨g, i * 2, none⟩ = some (.string ⟨k.toArray⟩) ∧ w.cell? ⟨g, i * 2 + 1, none⟩ = some (.slice pa pn pc) ∧ g < w.heap.size ∧ (∀ j, w.frozen? ⟨g, j, none⟩ = false) ∧ RdB w (.slice pa pn pc) b := by
  have hrow := h.row
  rw [← hn] at hrow
  obtain ⟨g, rfl⟩ : ∃ g, a = some ⟨g, 0, none⟩ := by
    rcases hrow.2 with ⟨h1, h2⟩ | ⟨g, cap, cur, h1, _⟩
    · omega
    · simp only [Value.slice.injEq] at h1
      exact ⟨g, h1.1⟩
  subst hn
  obtain ⟨g1, g2⟩ := eflat_get hi
  have a1 := hrow.cellAt (i * 2) (by omega)
  have a2 := hrow.cellAt (i * 2 + 1) (by omega)
  rw [Nat.mul_comm, g1] at a1
  rw [Nat.mul_comm, g2] at a2
  have he := h.ent L[i] (List.getElem_mem hi)
  refine ⟨g, L[i].1, L[i].2.b, L[i].2.a, L[i].2.n, L[i].2.c, rfl, List.getElem?_eq_getElem hi, by rw [Nat.mul_comm]; exact a1, by rw [Nat.mul_comm]; exact a2, (hrow.lt g rfl).2, fun j => hrow.frozenAt j, he.rd⟩

theorem same_take {L M : List (Bs × Ent)} {i : Nat} {p q : Bs × Ent} (hp : L[i]? = some p) (hq : M[i]? = some q) (h : (L.take i).map ct = (M.take i).map ct) : (L.take (i + 1)).map ct = (M.take (i + 1)).map ct ↔ ct p = ct q := by
  rw [List.take_add_one, List.take_add_one, hp, hq, List.map_append, List.map_append, h]
  simp
theorem same_not {L M : List (Bs × Ent)} {i : Nat} (h : (L.take i).map ct ≠ (M.take i).map ct) : L.map ct ≠ M.map ct := fun e => h (by rw [List.map_take, List.map_take, e])

set_option maxRecDepth 100000 in
set_option maxHeartbeats 1600000 in
theorem ref_SameFiles (B1 B2 : Nat) (a b : Option Addr) (n c m d : Nat) (L M : List (Bs × Ent)) (w : World) (h1 : FilesAt B1 72 w (.slice a n c) L) (hn : n = L.length) (h2 : FilesAt B2 72 w (.slice b m d) M) (hm : m = M.length) (hle : n ≤ 1000000) (hle2 : m ≤ 1000000) :
    Calls Tryz.prog 39 #[.slice a n c, .slice b m d] w fun e w' => e = .returned (.bool (decide (L.map ct = M.map ct))) ∧ Below w.heap.size w w' := by
  have HN := hide hn; have HM := hide hm
  have H1 := hide h1; have H2 := hide h2
  clear hn hm h1 h2
  by_cases hnm : n = m
  · subst hnm
    have i9 : ((n : Int) == (n : Int)) = true := by simp
    go_enter Tryz.func39, Tryz.ntmps39
    go_wp2
    go_loopw [5] (fun iv wr => ∃ i : Nat, iv = .int .i64 i ∧ i ≤ n ∧ Hid ((L.take i).map ct = (M.take i).map ct) ∧ Hid (Below w.heap.size w wr)) (fun iv _ => match iv with | .int _ j => n - j.toNat | _ => 0)
    case atStart => exact ⟨0, rfl, Nat.zero_le _, hide rfl, hide (Below.refl _ _)⟩
    case round =>
      obtain ⟨i, rfl, hi, heq, hb⟩ := hrel
      by_cases hin : i < n
      · have i0 : (i : Int) < n := by omega
        obtain ⟨g, k, x, pa, pn, pc, rfl, hp, c1, c2, hg, _, hr⟩ := (H1.out.low hb.out).get HN.out hin
        obtain ⟨g', k', x', pa', pn', pc', rfl, hq, d1, d2, hg', _, hr'⟩ := (H2.out.low hb.out).get HM.out hin
        have hcl : Hid (∀ w', Below wr.heap.size wr w' → w'.cell? ⟨g, i * 2, none⟩ = some (.string ⟨k.toArray⟩) ∧ w'.cell? ⟨g, i * 2 + 1, none⟩ = some (.slice pa pn pc) ∧ w'.cell? ⟨g', i * 2, none⟩ = some (.string ⟨k'.toArray⟩) ∧ w'.cell? ⟨g', i * 2 + 1, none⟩ = some (.slice pa' pn' pc')) := hide fun w' h => ⟨(h.cell (p := ⟨g, i * 2, none⟩) hg).trans c1, (h.cell (p := ⟨g, i * 2 + 1, none⟩) hg).trans c2, (h.cell (p := ⟨g', i * 2, none⟩) hg').trans d1, (h.cell (p := ⟨g', i * 2 + 1, none⟩) hg').trans d2⟩
        have hst := hide (same_take hp hq heq.out)
        have hwi : IntKind.i64.wrap ((i : Int) + 1) = (i : Int) + 1 := wrap64 (by omega) (by omega)
        have HR := hide hr; have HR2 := hide hr'
        clear hp hq c1 c2 d1 d2 hr hr' heq
        by_cases hk : k = k'
        · subst hk
          have k0 : (k == k) = true := by simp
          have k1 : (k != k) = false := by simp
          by_cases hx : x = x'
          · subst hx
            have x0 : (x == x) = true := by simp
            have x1 : (x != x) = false := by simp
            have hend := hide (hst.out.2 rfl)
            clear hst
            go_wp2_with fail
            refine wp_region_three 26 43 (by kernel_rfl) (by kernel_rfl) rfl (by kernel_rfl) (fun D v w' => Below wr.heap.size wr w') (fun _ => undef) (Below.refl _ _).drew ?_
            simp only [List.take_succ_cons, List.take_zero, List.drop_succ_cons, List.drop_zero]
            iterate 17 (refine Hav3.read (e := ?_) (fun v => by rfl) (fun D v w h => h) (fun D v w' hD hS => ?_) ?_; rotate_left; (obtain ⟨f1, f2, f3, f4⟩ := hcl.out w' hS; clear hS hD; first | (go_simp; done) | (go_simp; with_reducible rfl)); go_simp)
            iterate 1 (refine Hav3.read (e := ?_) (fun v => by rfl) (fun D v w h => h) (fun D v w' hD hS => ?_) ?_; rotate_left; (have f1 := convert_rd _ _ w' (HR.out.low hS); clear hS hD; first | (go_simp; done) | (go_simp; with_reducible rfl)); go_simp)
            iterate 5 (refine Hav3.read (e := ?_) (fun v => by rfl) (fun D v w h => h) (fun D v w' hD hS => ?_) ?_; rotate_left; (obtain ⟨f1, f2, f3, f4⟩ := hcl.out w' hS; clear hS hD; first | (go_simp; done) | (go_simp; with_reducible rfl)); go_simp)
            iterate 1 (refine Hav3.read (e := ?_) (fun v => by rfl) (fun D v w h => h) (fun D v w' hD hS => ?_) ?_; rotate_left; (have f1 := convert_rd _ _ w' (HR2.out.low hS); clear hS hD; first | (go_simp; done) | (go_simp; with_reducible rfl)); go_simp)
            iterate 2 (refine Hav3.read (e := ?_) (fun v => by rfl) (fun D v w h => h) (fun D v w' hD hS => ?_) ?_; rotate_left; (skip; clear hS hD; first | (go_simp; done) | (go_simp; with_reducible rfl)); go_simp)
            refine Hav3.fin (fun v w' hS => ?_)
            have HS := hide (hb.out.trans (hS.mono hb.out.size))
            clear hS
            go_wp2
            exact ⟨⟨i + 1, by simp, by omega, hend, HS⟩, by show n - ((i : Int) + 1).toNat < n - ((i : Nat) : Int).toNat; omega⟩
          · have x0 : (x == x') = false := by simpa using hx
            have x1 : (x != x') = true := by simpa using hx
            have hend : Hid (decide (L.map ct = M.map ct) = false) := hide (decide_eq_false (same_not (i := i + 1) fun e => by
              have h3 := hst.out.1 e
              simp only [ct, Prod.mk.injEq] at h3
              exact hx h3.2))
            clear hst
            go_wp2_with fail
            refine wp_region_three 26 43 (by kernel_rfl) (by kernel_rfl) rfl (by kernel_rfl) (fun D v w' => Below wr.heap.size wr w') (fun _ => undef) (Below.refl _ _).drew ?_
            simp only [List.take_succ_cons, List.take_zero, List.drop_succ_cons, List.drop_zero]
            iterate 17 (refine Hav3.read (e := ?_) (fun v => by rfl) (fun D v w h => h) (fun D v w' hD hS => ?_) ?_; rotate_left; (obtain ⟨f1, f2, f3, f4⟩ := hcl.out w' hS; clear hS hD; first | (go_simp; done) | (go_simp; with_reducible rfl)); go_simp)
            iterate 1 (refine Hav3.read (e := ?_) (fun v => by rfl) (fun D v w h => h) (fun D v w' hD hS => ?_) ?_; rotate_left; (have f1 := convert_rd _ _ w' (HR.out.low hS); clear hS hD; first | (go_simp; done) | (go_simp; with_reducible rfl)); go_simp)
            iterate 5 (refine Hav3.read (e := ?_) (fun v => by rfl) (fun D v w h => h) (fun D v w' hD hS => ?_) ?_; rotate_left; (obtain ⟨f1, f2, f3, f4⟩ := hcl.out w' hS; clear hS hD; first | (go_simp; done) | (go_simp; with_reducible rfl)); go_simp)
            iterate 1 (refine Hav3.read (e := ?_) (fun v => by rfl) (fun D v w h => h) (fun D v w' hD hS => ?_) ?_; rotate_left; (have f1 := convert_rd _ _ w' (HR2.out.low hS); clear hS hD; first | (go_simp; done) | (go_simp; with_reducible rfl)); go_simp)
            iterate 2 (refine Hav3.read (e := ?_) (fun v => by rfl) (fun D v w h => h) (fun D v w' hD hS => ?_) ?_; rotate_left; (skip; clear hS hD; first | (go_simp; done) | (go_simp; with_reducible rfl)); go_simp)
            refine Hav3.fin (fun v w' hS => ?_)
            have HS := hide (hb.out.trans (hS.mono hb.out.size))
            clear hS
            go_wp2
            go_ret
            exact ⟨by rw [hend.out]; rfl, HS.out⟩
        · have k0 : (k == k') = false := by simpa using hk
          have k1 : (k != k') = true := by simpa using hk
          have hend : Hid (decide (L.map ct = M.map ct) = false) := hide (decide_eq_false (same_not (i := i + 1) fun e => by
            have h3 := hst.out.1 e
            simp only [ct, Prod.mk.injEq] at h3
            exact hk h3.1))
          clear hst
          go_wp2_with fail
          refine wp_region_three 26 43 (by kernel_rfl) (by kernel_rfl) rfl (by kernel_rfl) (fun D v w' => Below wr.heap.size wr w') (fun _ => undef) (Below.refl _ _).drew ?_
          simp only [List.take_succ_cons, List.take_zero, List.drop_succ_cons, List.drop_zero]
          iterate 12 (refine Hav3.read (e := ?_) (fun v => by rfl) (fun D v w h => h) (fun D v w' hD hS => ?_) ?_; rotate_left; (obtain ⟨f1, f2, f3, f4⟩ := hcl.out w' hS; clear hS hD; first | (go_simp; done) | (go_simp; with_reducible rfl)); go_simp)
          iterate 13 (refine Hav3.skip (fun v => by rfl) (fun D v w h => h) ?_; go_simp)
          iterate 1 (refine Hav3.read (e := ?_) (fun v => by rfl) (fun D v w h => h) (fun D v w' hD hS => ?_) ?_; rotate_left; (skip; clear hS hD; first | (go_simp; done) | (go_simp; with_reducible rfl)); go_simp)
          refine Hav3.fin (fun v w' hS => ?_)
          have HS := hide (hb.out.trans (hS.mono hb.out.size))
          clear hS
          go_wp2
          go_ret
          exact ⟨by rw [hend.out]; rfl, HS.out⟩
      · obtain rfl : i = n := by omega
        have hend : Hid (decide (L.map ct = M.map ct) = true) := hide (decide_eq_true (by
          have h3 := heq.out
          rw [HN.out, List.take_length, ← HN.out, HM.out, List.take_length] at h3
          exact h3))
        clear heq
        go_wp2
        go_ret
        exact ⟨by rw [hend.out]; rfl, hb.out⟩
  · have i9 : ((n : Int) == (m : Int)) = false := by simpa using fun e : (n : Int) = m => hnm (by omega)
    have hend : decide (L.map ct = M.map ct) = false := decide_eq_false fun e => hnm (by
      have := congrArg List.length e
      simp only [List.length_map] at this
      rw [HN.out, HM.out, this])
    have HE := hide hend
    clear hend
    go_enter Tryz.func39, Tryz.ntmps39
    go_wp2
    go_ret
    exact ⟨by rw [HE.out]; rfl, Below.refl _ _⟩

structure FlS (B : Nat) (wr : World) (ov : Value) (i : Nat) (L : List (Bs × Ent)) (k : Bs) (x : Value) (D : Nat → Bool) (v : Nat → Value) (w' : World) : Prop where
  g : wr.grownBy w' ov.ownBlock
  q : D 13 = false → w'.ownsRow B 72 2 ov i (eflat L)
  s : D 12 = true → ∃ g, v 12 = .slice (some ⟨g, 0, none⟩) 1 1 ∧ Rd w' (v 12) 2 1 [.string ⟨k.toArray⟩, x] ∧ wr.heap.size ≤ g
  a : D 13 = true → D 12 = true ∧ ∃ a c, v 13 = .slice a (i + 1) c ∧ w'.ownsRow B 72 2 (v 13) (i + 1) (eflat L ++ [.string ⟨k.toArray⟩, x]) ∧ ((v 13).ownBlock = ov.ownBlock ∨ ∃ g, (v 13).ownBlock = some g ∧ wr.heap.size ≤ g)
  e : D 14 = true → D 13 = true ∧ v 14 = v 13
theorem FlS.start {B : Nat} {wr : World} {ov : Value} {i : Nat} {L : List (Bs × Ent)} {k : Bs} {x : Value} (h : wr.ownsRow B 72 2 ov i (eflat L)) : FlS B wr ov i L k x (fun _ => false) (fun _ => undef) wr.drew :=
  ⟨⟨rfl, rfl, rfl, Nat.le_refl _, fun _ _ _ => rfl⟩, fun _ => h, (fun h => by cases h), (fun h => by cases h), (fun h => by cases h)⟩
theorem FlS.made {B : Nat} {wr w' : World} {ov : Value} {i : Nat} {L : List (Bs × Ent)} {k : Bs} {pa : Option Addr} {pn pc : Nat} {D : Nat → Bool} {v : Nat → Value} (h : FlS B wr ov i L k (.slice pa pn pc) D v w') (d13 : D 13 = false) :
    FlS B wr ov i L k (.slice pa pn pc) (mark D 12) (setv v 12 (.slice (some ⟨w'.heap.size, 0, none⟩) 1 1)) (w'.alloc (.cells #[.string ⟨k.toArray⟩, .slice pa pn pc] 72)) := by
  have hb := below_alloc w' (.cells #[.string ⟨k.toArray⟩, .slice pa pn pc] 72)
  refine ⟨grown_low h.g hb, fun _ => ownsRow_below (h.q d13) hb (Nat.le_refl _), fun _ => ⟨w'.heap.size, rfl, rd_new w' #[.string ⟨k.toArray⟩, .slice pa pn pc] 72 1 2 (by decide) rfl, h.g.size⟩, fun e => ?_, fun e => ?_⟩
  · have : D 13 = true := e
    rw [d13] at this; cases this
  · have := (h.e e).1
    rw [d13] at this; cases this
theorem FlS.appended {B : Nat} {wr w' w'' : World} {ov v' : Value} {i : Nat} {L : List (Bs × Ent)} {k : Bs} {x : Value} {D : Nat → Bool} {v : Nat → Value} (h : FlS B wr ov i L k x D v w') (d12 : D 12 = true) (e14 : D 14 = true → False) (hr : wr.ownsRow B 72 2 ov i (eflat L))
    (hrow : w''.ownsRow B 72 2 v' (i + 1) (eflat L ++ [.string ⟨k.toArray⟩, x])) (hg : w'.grownBy w'' ov.ownBlock) (hb : v'.ownBlock = ov.ownBlock ∨ v'.ownBlock = some w'.heap.size) : FlS B wr ov i L k x (mark D 13) (setv v 13 v') w'' := by
  obtain ⟨aa, ac, rfl⟩ := slice_of_row hrow
  refine ⟨h.g.trans hg, (fun e => by cases e), fun e => ?_, fun _ => ⟨d12, aa, ac, rfl, hrow, hb.imp id fun e => ⟨_, e, h.g.size⟩⟩, fun e => by have := e14 e; cases this⟩
  obtain ⟨g, h2, h3, h4⟩ := h.s e
  refine ⟨g, h2, h3.kept fun j hj hlt => hg.block j hlt fun e => ?_, h4⟩
  have h5 := (hr.lt j e.symm).2
  have h6 : v 12 = .slice (some ⟨g, 0, none⟩) 1 1 := h2
  have hj2 : (v 12).ownBlock = some j := hj
  rw [h6] at hj2
  simp only [Value.ownBlock, Option.some.injEq] at hj2
  omega

set_option maxRecDepth 100000 in
set_option maxHeartbeats 1600000 in
theorem law_Files (sb : Nat) (s : FsS) (F : List Nat) (w : World) (h : FsRep w sb s F) (ok : s.Ok) :
    Calls Tryz.prog 40 #[.pointer (some ⟨sb, 0, none⟩)] w (FilesTold 72 (fsFiles s) w) := by
  have hl8 : (fsFiles s).length ≤ 8 := by unfold fsFiles; rw [List.length_map]; exact ok.few
  obtain ⟨n, hn⟩ : ∃ n, n = (fsFiles s).length := ⟨_, rfl⟩
  have hn8 : n ≤ 8 := by omega
  have HN := hide hn
  clear hl8 hn
  obtain ⟨iF, hiF, hyF0, hyF1, hyF2⟩ := info_parts refFile_info
  go_enter Tryz.func40, Tryz.ntmps40
  go_wp2_with (refine (fs_Files sb s F w h ok).mono ?_; rintro e w2 ⟨a, c, L, rfl, hf, hct, hb⟩; rw [← HN.out] at hf ⊢; have HF := hide hf; have HCT := hide hct; have HB := hide hb; clear hf hct hb)
  have hw2 := HB.out.size
  have hLn : Hid (n = L.length) := hide (by have := congrArg List.length HCT.out; rw [List.length_map] at this; rw [HN.out, this])
  clear h ok
  go_loopw [3, 5] (fun ov iv wr => ∃ (i : Nat) (oa : Option Addr) (oc : Nat), ov = .slice oa i oc ∧ iv = .int .i64 i ∧ i ≤ n ∧ Hid (∃ L', FilesAt w.heap.size 72 wr (.slice oa i oc) L' ∧ L'.map ct = (fsFiles s).take i ∧ L'.length = i ∧ ∀ k, (Value.slice oa i oc).ownBlock = some k → w2.heap.size ≤ k) ∧ Hid (Below w2.heap.size w2 wr)) (fun _ iv _ => match iv with | .int _ j => n - j.toNat | _ => 0)
  case atStart => exact ⟨0, none, 0, rfl, rfl, Nat.zero_le _, hide ⟨[], FilesAt.nil _ _ _, rfl, rfl, fun k hk => by cases hk⟩, hide (Below.refl _ _)⟩
  case round =>
    obtain ⟨i, oa, oc, rfl, rfl, hi, hrel, hbw⟩ := hrel
    by_cases hin : i < n
    · have i0 : (i : Int) < n := by omega
      obtain ⟨g, k, x, pa, pn, pc, rfl, hp, c1, c2, hg, hfz, hr⟩ := (HF.out.low hbw.out).get hLn.out hin
      obtain ⟨L', hL1, hL2, hL3, hL4⟩ := hrel.out
      have hg2 := (HF.out.row.lt g rfl).2
      have hcl : Hid (∀ w', wr.grownBy w' (Value.slice oa i oc).ownBlock → w'.cell? ⟨g, i * 2, none⟩ = some (.string ⟨k.toArray⟩) ∧ w'.cell? ⟨g, i * 2 + 1, none⟩ = some (.slice pa pn pc)) := hide fun w' h => by
        have h1 : w'.heap[g]? = wr.heap[g]? := h.block g hg fun e => by have := hL4 g e.symm; omega
        exact ⟨(World.cell?_of_block (w := wr) (a := ⟨g, i * 2, none⟩) h1).trans c1, (World.cell?_of_block (w := wr) (a := ⟨g, i * 2 + 1, none⟩) h1).trans c2⟩
      have hrow : wr.ownsRow w.heap.size 72 2 (.slice oa i oc) i (eflat L') := by
        have h1 := hL1.row
        rw [hL3] at h1
        exact h1
      have hent := (HF.out.low hbw.out).ent (k, ⟨x, pa, pn, pc⟩) (List.mem_of_getElem? hp)
      have hentge := HF.out.ge (k, ⟨x, pa, pn, pc⟩) (List.mem_of_getElem? hp)
      have hentlt := fun j hj => (HF.out.ent (k, ⟨x, pa, pn, pc⟩) (List.mem_of_getElem? hp)).far j hj
      have hfin : Hid (∀ w' v, w'.ownsRow w.heap.size 72 2 v (i + 1) (eflat L' ++ [.string ⟨k.toArray⟩, .slice pa pn pc]) → wr.grownBy w' (Value.slice oa i oc).ownBlock → (v.ownBlock = (Value.slice oa i oc).ownBlock ∨ ∃ g, v.ownBlock = some g ∧ wr.heap.size ≤ g) →
          (∃ L'', FilesAt w.heap.size 72 w' v L'' ∧ L''.map ct = (fsFiles s).take (i + 1) ∧ L''.length = i + 1 ∧ ∀ k, v.ownBlock = some k → w2.heap.size ≤ k) ∧ Below w2.heap.size w2 w') := hide fun w' v hown hgr hv => by
        rw [← hL3] at hown
        refine ⟨⟨L' ++ [(k, ⟨x, pa, pn, pc⟩)], hL1.add (e := ⟨x, pa, pn, pc⟩) (Below.refl _ wr) ⟨hent.rd, hent.n, hent.le, hent.cap, fun j hj => ⟨fun hm => ?_, (hent.far j hj).2⟩⟩ hentge (Below.refl _ _) hown hgr hv, ?_, by simp [hL3], fun j hj => ?_⟩, hbw.out.grown hgr hbw.out.size hL4⟩
        · have h1 := hL4 j (by simpa [Option.mem_toList] using hm)
          have h2 := (hentlt j hj).2
          omega
        · have h1 : (fsFiles s)[i]? = some (k, x) := by
            rw [← HCT.out, List.getElem?_map, hp]
            rfl
          rw [List.map_append, hL2, List.take_add_one, h1]
          rfl
        · rcases hv with e | ⟨g', e, hge⟩
          · exact hL4 j (e ▸ hj)
          · rw [e] at hj
            simp only [Option.some.injEq] at hj
            have := hbw.out.size
            omega
      have hlw : w.heap.size ≤ wr.heap.size := by have := hbw.out.size; omega
      have hwi : IntKind.i64.wrap ((i : Int) + 1) = (i : Int) + 1 := wrap64 (by omega) (by omega)
      have HROW := hide hrow
      clear hp c1 c2 hr hent hentge hentlt hL1 hL2 hL3 hL4 hfz hrow
      go_wp2_with fail
      refine wp_region_three 15 29 (by kernel_rfl) (by kernel_rfl) rfl (by kernel_rfl) (fun D v w' => FlS w.heap.size wr (.slice oa i oc) i L' k (.slice pa pn pc) D v w') (fun _ => undef) (FlS.start HROW.out) ?_
      simp only [List.take_succ_cons, List.take_zero, List.drop_succ_cons, List.drop_zero]
      iterate 12 (refine Hav3.read (e := ?_) (fun v => by rfl) (fun D v w h => ⟨h.g, h.q, h.s, h.a, h.e⟩) (fun D v w' hD hS => ?_) ?_; rotate_left; (obtain ⟨f1, f2⟩ := hcl.out w' hS.g; clear hS hD; first | (go_simp; done) | (go_simp; with_reducible rfl)); go_simp)
      refine Hav3.rel (fun v => by rfl) (fun D v w' hD hS => ?_) ?_
      · have d13 : D 13 = false := hD.post 13 _ rfl (by kernel_rfl)
        have HS3 := hide (hS.made d13)
        clear hS hD
        go_simp
        exact HS3.out
      go_simp
      refine Hav3.rel (fun v => by rfl) (fun D v w' hD hS => ?_) ?_
      · have d12 : D 12 = true := hD.pre 12 (by kernel_rfl)
        have d13 : D 13 = false := hD.self
        have D14 : Hid (D 14 = false) := hide (hD.post 14 _ rfl (by kernel_rfl))
        obtain ⟨g', h9, hrd, hge⟩ := hS.s d12
        have hq := hide (hS.q d13)
        have hsz := hS.g.size
        have HS3 := hide hS
        rw [h9] at hrd
        have HRD := hide hrd
        rw [h9]
        clear hS hD h9
        refine wp_append_rd _ _ 60 rfl w.heap.size 72 iF (.agg #[.string ⟨#[]⟩, .slice none 0 0]) 2 40 Tryz.underlying60 hiF hyF0 hyF1 hyF2 rfl (by decide) _ i (eflat L') rfl hq.out _ 1 [.string ⟨k.toArray⟩, .slice pa pn pc] rfl HRD.out (by simp [Value.oneCell']) (by unfold maxLen; omega) (by omega) (by omega) ?_
        intro v' w'' h1 h2 h3 h4
        exact ⟨v', rfl, HS3.out.appended d12 (fun e => by rw [D14.out] at e; cases e) HROW.out h1 h2 h4, trivial⟩
      go_simp
      refine Hav3.rel (fun v => by rfl) (fun D v w' hD hS => ?_) ?_
      · have d13 : D 13 = true := hD.pre 13 (by kernel_rfl)
        have HS3 : Hid (FlS w.heap.size wr (.slice oa i oc) i L' k (.slice pa pn pc) (mark D 14) (setv v 14 (v 13)) w') := hide ⟨hS.g, hS.q, hS.s, hS.a, fun _ => ⟨d13, rfl⟩⟩
        clear hS hD
        go_simp
        exact HS3.out
      go_simp
      refine Hav3.fin (fun v w' hS => ?_)
      obtain ⟨aa, ac, h10, hrow2, hblk⟩ := (hS.a rfl).2
      have h11 := (hS.e rfl).2
      rw [h10] at hrow2 hblk h11
      have HE := hide (hfin.out w' _ hrow2 hS.g hblk)
      rw [h11]
      clear hS hrow2 hblk h10 h11
      go_wp2
      exact ⟨⟨i + 1, aa, ac, rfl, by simp, by omega, hide HE.out.1, hide HE.out.2⟩, by show n - ((i : Int) + 1).toNat < n - ((i : Nat) : Int).toNat; omega⟩
    · obtain rfl : i = n := by omega
      have hend : FilesTold 72 (fsFiles s) w (.returned (.slice oa i oc)) wr := by
        obtain ⟨L', hL1, hL2, hL3, hL4⟩ := hrel.out
        rw [HN.out, List.take_length] at hL2
        refine ⟨oa, oc, L', by rw [HN.out], ?_, hL2, HB.out.trans (hbw.out.mono hw2)⟩
        rw [← HN.out]
        exact hL1
      have HE := hide hend
      clear hend hrel
      go_wp2
      go_ret
      exact HE.out
end Go.Proofs.YtglgjakjhkdoaaaGreatDoor
