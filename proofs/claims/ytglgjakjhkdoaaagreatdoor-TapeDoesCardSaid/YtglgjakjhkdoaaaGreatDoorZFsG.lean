/-
  The walks of slices.DeleteFunc and slices.IndexFunc at files, with the closure of forget.
-/
import Derived.Test.YtglgjakjhkdoaaaGreatDoorZFsF
namespace Go.Proofs.YtglgjakjhkdoaaaGreatDoor
open Go.RowKit Go.Maps
set_option linter.unusedVariables false
set_option linter.unusedSimpArgs false

theorem fs_forget1 (pk k : Bs) (x : Value) (hx1 : x.oneCell' = true) (a : Option Addr) (n c : Nat) (hx : x = .slice a n c) (nb : Nat) (w : World) (hc : w.cell? ⟨nb, 0, none⟩ = some (.string ⟨k.toArray⟩)) (hnb : nb < w.heap.size) :
    Calls Tryz.prog 79 #[.agg #[.string ⟨pk.toArray⟩, x], .pointer (some ⟨nb, 0, none⟩)] w fun e w' => e = .returned (.bool (decide (pk = k))) ∧ Below w.heap.size w w' := by
  subst hx
  have hc2 : (w.alloc (.cells #[.string ⟨pk.toArray⟩, .slice a n c] 68)).cell? ⟨nb, 0, none⟩ = some (.string ⟨k.toArray⟩) := ((below_alloc w _).cell (p := ⟨nb, 0, none⟩) hnb).trans hc
  clear hc hx1
  by_cases e : pk = k
  · have e2 : decide (pk = k) = true := decide_eq_true e
    rw [e2]
    subst e
    go_enter Tryz.func79, Tryz.ntmps79
    go_wp2
    go_ret
    exact ⟨rfl, below_alloc w _⟩
  · have e2 : decide (pk = k) = false := decide_eq_false e
    have e3 : (pk == k) = false := by simpa using e
    rw [e2]
    clear e2
    go_enter Tryz.func79, Tryz.ntmps79
    go_wp2
    go_ret
    exact ⟨rfl, below_alloc w _⟩

theorem row_at {w : World} {g n c : Nat} {L : List (Bs × Ent)} (h : w.ownsRow 0 68 2 (.slice (some ⟨g, 0, none⟩) n c) n (eflat L)) (hn : n = L.length) {i : Nat} (hi : i < n) :
    ∃ pk pb pa pn pc, L[i]? = some (pk, ⟨pb, pa, pn, pc⟩) ∧ w.cell? ⟨g, i * 2, none⟩ = some (.string ⟨pk.toArray⟩) ∧ w.cell? ⟨g, i * 2 + 1, none⟩ = some (.slice pa pn pc) ∧ g < w.heap.size ∧ ∀ j, w.frozen? ⟨g, j, none⟩ = false := by
  subst hn
  obtain ⟨g1, g2⟩ := eflat_get hi
  have a1 := h.cellAt (i * 2) (by omega)
  have a2 := h.cellAt (i * 2 + 1) (by omega)
  rw [Nat.mul_comm, g1] at a1
  rw [Nat.mul_comm, g2] at a2
  refine ⟨L[i].1, L[i].2.b, L[i].2.a, L[i].2.n, L[i].2.c, List.getElem?_eq_getElem hi, by rw [Nat.mul_comm]; exact a1, by rw [Nat.mul_comm]; exact a2, (h.lt g rfl).2, fun j => h.frozenAt j⟩

def firstAt (k : Bs) (L : List (Bs × Ent)) : Option Nat := L.findIdx? fun p => decide (p.1 = k)
set_option maxRecDepth 100000 in
set_option maxHeartbeats 1600000 in
theorem sl_IndexFunc (a : Option Addr) (n c : Nat) (k : Bs) (nb : Nat) (L : List (Bs × Ent)) (w : World) (h : w.ownsRow 0 68 2 (.slice a n c) n (eflat L)) (hn : n = L.length) (hl : n ≤ 1048576)
    (hc : w.cell? ⟨nb, 0, none⟩ = some (.string ⟨k.toArray⟩)) (hnb : nb < w.heap.size) :
    Calls Tryz.prog 85 #[.slice a n c, .func (.func 79) #[] #[.pointer (some ⟨nb, 0, none⟩)]] w fun e w' => (∃ r : Int, e = .returned (.int .i64 r) ∧ ((r = -1 ∧ ∀ p ∈ L, p.1 ≠ k) ∨ ∃ i : Nat, r = i ∧ i < n ∧ (∀ p ∈ L.take i, p.1 ≠ k) ∧ ∃ p, L[i]? = some p ∧ p.1 = k)) ∧ Below w.heap.size w w' := by
  have H := hide h; have HN := hide hn; have HC := hide hc
  clear h hn hc
  go_enter Tryz.func85, Tryz.ntmps85
  go_wp2
  go_loopw [5, 8] (fun jv iv wr => ∃ i : Nat, iv = .int .i64 i ∧ i ≤ n ∧ Hid (∀ p ∈ L.take i, p.1 ≠ k) ∧ Hid (Below w.heap.size w wr)) (fun _ iv _ => match iv with | .int _ j => n - j.toNat | _ => 0)
  case atStart => exact ⟨0, rfl, Nat.zero_le _, hide (by intro p hp; cases hp), hide (Below.refl _ _)⟩
  case round =>
    obtain ⟨i, rfl, hi, hne, hb⟩ := hrel
    by_cases hin : i < n
    · have i0 : (i : Int) < n := by omega
      have hrow : wr.ownsRow 0 68 2 (.slice a n c) n (eflat L) := ownsRow_below H.out hb.out (Nat.le_refl _)
      obtain ⟨g, rfl⟩ : ∃ g, a = some ⟨g, 0, none⟩ := by
        rcases hrow.2 with ⟨h1, h2⟩ | ⟨g, cap, cur, h1, _⟩
        · omega
        · simp only [Value.slice.injEq] at h1
          exact ⟨g, h1.1⟩
      obtain ⟨pk, pb, pa, pn, pc, hp, a1, a2, hg, hfz⟩ := row_at hrow HN.out hin
      have hcw : Hid (wr.cell? ⟨nb, 0, none⟩ = some (.string ⟨k.toArray⟩)) := hide ((hb.out.cell (p := ⟨nb, 0, none⟩) hnb).trans HC.out)
      have HP := hide hp
      clear hrow hp
      go_wp2_with fail
      refine (fs_forget1 pk k _ rfl pa pn pc rfl nb wr hcw.out (by have := hb.out.size; omega)).mono ?_
      rintro e w1 ⟨rfl, hb1⟩
      have HB1 := hide (hb.out.trans (hb1.mono hb.out.size))
      have hw2 : IntKind.i64.wrap ((i : Int) + 1) = (i : Int) + 1 := wrap64 (by omega) (by omega)
      clear hb1 a1 a2 hfz
      by_cases e : pk = k
      · have e2 : decide (pk = k) = true := decide_eq_true e
        rw [e2]
        have hend : Hid (∃ p, L[i]? = some p ∧ p.1 = k) := hide ⟨_, HP.out, e⟩
        clear e2 e
        go_wp2
        go_ret
        exact ⟨⟨i, rfl, .inr ⟨i, rfl, hin, hne.out, hend.out⟩⟩, HB1.out⟩
      · have e2 : decide (pk = k) = false := decide_eq_false e
        rw [e2]
        have hne2 : Hid (∀ p ∈ L.take (i + 1), p.1 ≠ k) := hide fun p hp => by
          rw [List.take_add_one, HP.out] at hp
          rcases List.mem_append.1 hp with h1 | h1
          · exact hne.out p h1
          · simp only [Option.toList_some, List.mem_singleton] at h1
            subst h1
            exact e
        clear e2 e
        go_wp2
        refine ⟨⟨i + 1, rfl, hin, hne2, HB1⟩, ?_⟩
        show n - ((i : Int) + 1).toNat < n - ((i : Nat) : Int).toNat
        omega
    · obtain rfl : i = n := by omega
      have hall : Hid (∀ p ∈ L, p.1 ≠ k) := hide (by have := hne.out; rw [HN.out, List.take_length] at this; exact this)
      go_wp2
      go_ret
      exact ⟨⟨-1, rfl, .inl ⟨rfl, hall.out⟩⟩, hb.out⟩

theorem zero_file (w : World) : (zeroValue 68).run Tryz.prog w = .ok (.agg #[.string ⟨#[]⟩, .slice none 0 0]) w := by kernel_rfl
theorem run_clear_end {P : Program} (w : World) (t e ty : TypeId) (z : Value) (ht : P.underlying t = some (.slice e)) (hv : ∀ w, (zeroValue e).run P w = .ok z w) (h1 : ∀ u ∈ z.cells.toList, u.oneCell' = true) (hz : 0 < z.cells.size) (b o m c : Nat) (cur : Array Value) (hh : w.heap[b]? = some (.cells cur e (0, 0)))
    (hm : 0 < m) (hle : o + m * z.cells.size ≤ cur.size) :
    (Builtin.clear_ #[t] ty #[.slice (some ⟨b, o, none⟩) m c]).run P w = .ok (.tuple #[]) (w.setCells b o (Builtin.zeroCells z.cells m).toList) := by
  have hl : (Builtin.zeroCells z.cells m).toList.length = m * z.cells.size := by simp [Builtin.zeroCells]
  have hone : ∀ u ∈ (Builtin.zeroCells z.cells m).toList, u.oneCell' = true := by
    intro u hu
    simp only [Builtin.zeroCells, Array.toList_map, List.mem_map] at hu
    obtain ⟨i, _, rfl⟩ := hu
    have hi : i % z.cells.size < z.cells.size := Nat.mod_lt _ hz
    rw [getElem!_pos z.cells _ hi]
    exact h1 _ (by simp)
  have hst := run_storeCells_cells (P := P) b o (Builtin.zeroCells z.cells m).toList 0 w (fun j hj => by simp [World.cell?, hh]; rw [hl] at hj; omega) (fun j hj => by simp [World.frozen?, hh]) hone
  simp only [Nat.add_zero] at hst
  obtain ⟨m', rfl⟩ : ∃ m', m = m' + 1 := ⟨m - 1, by omega⟩
  simp [Builtin.clear_, run_underlying ht, hv, hst]
theorem ownsRow_front {w : World} {base e size g n c : Nat} {xs : List Value} (h : w.ownsRow base e size (.slice (some ⟨g, 0, none⟩) n c) n xs) (i : Nat) (hi : i ≤ n) (vs : List Value) (hv : i * size + vs.length ≤ n * size) :
    (w.setCells g (i * size) vs).ownsRow base e size (.slice (some ⟨g, 0, none⟩) i c) i (xs.take (i * size)) := by
  rcases h.2 with ⟨h', _⟩ | ⟨g', cap', cur, h', hb, hg, hnc, hcm, hcs, htake⟩
  · simp at h'
  · simp only [Value.slice.injEq, Option.some.injEq, Addr.mk.injEq, and_true, true_and] at h'
    obtain ⟨rfl, rfl⟩ := h'
    have hmul : i * size ≤ n * size := Nat.mul_le_mul_right _ hi
    have hns : n * size ≤ c * size := Nat.mul_le_mul_right _ hnc
    have hset := setCells_heap vs (i * size) w cur hg (by rw [hcs]; omega)
    refine ⟨by rw [List.length_take, h.1]; omega, .inr ⟨g, c, _, rfl, hb, hset, by omega, hcm, by rw [List.size_toArray, laid_length _ _ _ (by simp [hcs]; omega)]; simpa using hcs, ?_⟩⟩
    have hcl : i * size ≤ cur.toList.length := by rw [Array.length_toList, hcs]; omega
    have hl2 : (cur.toList.take (i * size)).length = i * size := List.length_take_of_le hcl
    rw [← htake]
    show List.take (i * size) (laid cur.toList (i * size) vs) = _
    unfold laid
    rw [List.append_assoc, List.take_append_of_le_length (by rw [hl2]; exact Nat.le_refl _), List.take_take, List.take_take, Nat.min_self, Nat.min_eq_left hmul]
theorem eflat_set (L : List (Bs × Ent)) (i : Nat) (hi : i < L.length) (p : Bs × Ent) : eflat (L.set i p) = ((eflat L).set (i * 2) (.string ⟨p.1.toArray⟩)).set (i * 2 + 1) p.2.v := by
  induction L generalizing i with
  | nil => simp at hi
  | cons q L ih =>
    have e : ∀ (r : Bs × Ent) (M : List (Bs × Ent)), eflat (r :: M) = .string ⟨r.1.toArray⟩ :: r.2.v :: eflat M := fun r M => by simp [eflat]
    cases i with
    | zero => simp [e]
    | succ i =>
      rw [List.set_cons_succ, e, e, ih i (by simpa using hi), show (i + 1) * 2 = i * 2 + 1 + 1 by omega]
      simp
theorem eflat_take (L : List (Bs × Ent)) (i : Nat) : (eflat L).take (i * 2) = eflat (L.take i) := by
  induction L generalizing i with
  | nil => simp [eflat]
  | cons q L ih =>
    have e : ∀ (r : Bs × Ent) (M : List (Bs × Ent)), eflat (r :: M) = .string ⟨r.1.toArray⟩ :: r.2.v :: eflat M := fun r M => by simp [eflat]
    cases i with
    | zero => simp [eflat]
    | succ i => rw [e, show (i + 1) * 2 = i * 2 + 1 + 1 by omega, List.take_succ_cons, List.take_succ_cons, ih, List.take_succ_cons, e]
def keepE (k : Bs) (L : List (Bs × Ent)) : List (Bs × Ent) := L.filter fun p => decide (p.1 ≠ k)
theorem keepE_all {k : Bs} {L : List (Bs × Ent)} (h : ∀ p ∈ L, p.1 ≠ k) : keepE k L = L := List.filter_eq_self.2 fun p hp => by simpa using h p hp
theorem keepE_snoc (k : Bs) (L : List (Bs × Ent)) (p : Bs × Ent) : keepE k (L ++ [p]) = keepE k L ++ (if p.1 = k then [] else [p]) := by
  unfold keepE
  rw [List.filter_append]
  congr 1
  by_cases e : p.1 = k <;> simp [e]

def DelRel (k : Bs) (L : List (Bs × Ent)) (g n c : Nat) (nb : Nat) (w : World) (iv jv : Value) (wr : World) : Prop :=
  ∃ (i j : Nat) (A : List (Bs × Ent)), iv = .int .i64 i ∧ jv = .int .i64 j ∧ i < j ∧ j ≤ n ∧ Hid (wr.ownsRow 0 68 2 (.slice (some ⟨g, 0, none⟩) n c) n (eflat A)) ∧ Hid (A.length = n) ∧ Hid (A.drop j = L.drop j) ∧ Hid (A.take i = keepE k (L.take j)) ∧
    Hid (w.grownBy wr (some g))

set_option maxRecDepth 100000 in
set_option maxHeartbeats 1600000 in
theorem sl_DeleteFunc (a : Option Addr) (n c : Nat) (k : Bs) (nb : Nat) (L : List (Bs × Ent)) (w : World) (h : w.ownsRow 0 68 2 (.slice a n c) n (eflat L)) (hn : n = L.length) (hl : n ≤ 1048576)
    (hc : w.cell? ⟨nb, 0, none⟩ = some (.string ⟨k.toArray⟩)) (hnb : nb < w.heap.size) (hne : (Value.slice a n c).ownBlock ≠ some nb) :
    Calls Tryz.prog 78 #[.slice a n c, .func (.func 79) #[] #[.pointer (some ⟨nb, 0, none⟩)]] w fun e w' =>
      ∃ m, e = .returned (.slice a m c) ∧ m = (keepE k L).length ∧ w'.ownsRow 0 68 2 (.slice a m c) m (eflat (keepE k L)) ∧ w.grownBy w' (Value.slice a n c).ownBlock := by
  have H := hide h; have HN := hide hn; have HC := hide hc; have HNE := hide hne
  have hcap := ownsRow_cap h
  clear h hn hc hne
  go_enter Tryz.func78, Tryz.ntmps78
  go_wp2_with fail
  refine (sl_IndexFunc a n c k nb L w H.out HN.out hl HC.out hnb).mono ?_
  rintro e w1 ⟨⟨r, rfl, hr⟩, hb1⟩
  have H1 := hide (ownsRow_below H.out hb1 (Nat.le_refl _))
  have HB1 := hide hb1
  clear hb1
  rcases hr with ⟨rfl, hall⟩ | ⟨i, rfl, hin, hpre, p, hp, hpk⟩
  · have hk := hide (keepE_all hall)
    clear hall
    go_wp2
    go_ret
    refine ⟨n, rfl, by rw [hk.out]; exact HN.out, by rw [hk.out]; exact H1.out, grown_low ⟨rfl, rfl, rfl, Nat.le_refl _, fun _ _ _ => rfl⟩ HB1.out⟩
  · obtain ⟨g, rfl⟩ : ∃ g, a = some ⟨g, 0, none⟩ := by
      rcases H1.out.2 with ⟨h1, h2⟩ | ⟨g, cap, cur, h1, _⟩
      · omega
      · simp only [Value.slice.injEq] at h1
        exact ⟨g, h1.1⟩
    have i0 : ((i : Int) == -1) = false := by simp
    have hg1 := hide (grown_low (⟨rfl, rfl, rfl, Nat.le_refl _, fun _ _ _ => rfl⟩ : w.grownBy w (some g)) HB1.out)
    have hst : Hid (L.take i = keepE k (L.take (i + 1))) := hide (by
      rw [List.take_add_one, hp, Option.toList_some, keepE_snoc, if_pos hpk, List.append_nil, keepE_all hpre])
    have hw2 : IntKind.i64.wrap ((i : Int) + 1) = (i : Int) + 1 := wrap64 (by omega) (by omega)
    clear hpre hp hpk
    go_wp2
    go_loopw [5, 6, 7] (fun iv jv pv wr => DelRel k L g n c nb w iv jv wr) (fun _ jv _ _ => match jv with | .int _ j => n - j.toNat | _ => 0)
    case atStart => exact ⟨i, i + 1, L, rfl, by simp, by omega, hin, H1, hide HN.out.symm, hide rfl, hst, hg1⟩
    case round =>
      clear HB1 hg1 hst H1
      obtain ⟨i, j, A, rfl, rfl, hij, hjn, hrow, hAl, hAd, hAt, hgr⟩ := hrel
      by_cases hj : j < n
      · have j0 : (j : Int) < n := by omega
        obtain ⟨pk, pb, pa, pn, pc, hp, a1, a2, hg, hfz⟩ := row_at hrow.out hAl.out.symm hj
        have hcw : wr.cell? ⟨nb, 0, none⟩ = some (.string ⟨k.toArray⟩) := by
          have := hgr.out.block nb hnb fun e => HNE.out e.symm
          exact (World.cell?_of_block (w := w) (a := ⟨nb, 0, none⟩) this).trans HC.out
        have HP := hide hp
        have hnw := hgr.out.size
        have hb2 := hide (below_alloc wr (.cells #[.string ⟨pk.toArray⟩, .slice pa pn pc] 68))
        have hcw2 : Hid ((wr.alloc (.cells #[.string ⟨pk.toArray⟩, .slice pa pn pc] 68)).cell? ⟨nb, 0, none⟩ = some (.string ⟨k.toArray⟩)) := hide ((hb2.out.cell (p := ⟨nb, 0, none⟩) (Nat.lt_of_lt_of_le hnb hnw)).trans hcw)
        have hpl : Hid (L[j]? = some (pk, ⟨pb, pa, pn, pc⟩)) := hide (by
          have h1 := congrArg (fun X => X[0]?) hAd.out
          simp only [List.getElem?_drop, Nat.add_zero] at h1
          rw [← h1]
          exact hp)
        clear hp hcw
        go_wp2_with fail
        refine (fs_forget1 pk k _ rfl pa pn pc rfl nb _ hcw2.out (by simp; omega)).mono ?_
        rintro e w3 ⟨rfl, hb3⟩
        have hrow3 := hide (ownsRow_below (ownsRow_below hrow.out hb2.out (Nat.le_refl _)) hb3 (Nat.le_refl _))
        have hg3 := hide (grown_low hgr.out (hb2.out.trans (hb3.mono (by simp))))
        have hnew : (wr.alloc (.cells #[.string ⟨pk.toArray⟩, .slice pa pn pc] 68)).heap[wr.heap.size]? = some (.cells #[.string ⟨pk.toArray⟩, .slice pa pn pc] 68) := heap_alloc_at _ _
        have hn3 : w3.heap[wr.heap.size]? = some (.cells #[.string ⟨pk.toArray⟩, .slice pa pn pc] 68) := (hb3.block _ (by simp)).trans hnew
        have b1 : w3.cell? ⟨wr.heap.size, 0, none⟩ = some (.string ⟨pk.toArray⟩) := by simp [World.cell?, hn3]
        have b2 : w3.cell? ⟨wr.heap.size, 1, none⟩ = some (.slice pa pn pc) := by simp [World.cell?, hn3]
        have hw3 : IntKind.i64.wrap ((j : Int) + 1) = (j : Int) + 1 := wrap64 (by omega) (by omega)
        have hw4 : IntKind.i64.wrap ((i : Int) + 1) = (i : Int) + 1 := wrap64 (by omega) (by omega)
        have hjt : Hid (L.take (j + 1) = L.take j ++ [(pk, ⟨pb, pa, pn, pc⟩)]) := hide (by rw [List.take_add_one, hpl.out]; rfl)
        clear hrow hgr hb2 hcw2 hb3 hnew hn3 hw2 a1 a2 hfz hg
        by_cases hpk : pk = k
        · have e2 : decide (pk = k) = true := decide_eq_true hpk
          rw [e2]
          have hd2 : Hid (A.drop (j + 1) = L.drop (j + 1)) := hide (by rw [← List.drop_drop, ← List.drop_drop, hAd.out])
          have ht2 : Hid (A.take i = keepE k (L.take (j + 1))) := hide (by rw [hjt.out, keepE_snoc, if_pos hpk, List.append_nil]; exact hAt.out)
          clear e2 hpk b1 b2 hjt hAt hAd
          go_wp2
          refine ⟨⟨i, j + 1, A, rfl, by simp, by omega, hj, hrow3, hAl, hd2, ht2, hg3⟩, ?_⟩
          show n - ((j : Int) + 1).toNat < n - ((j : Nat) : Int).toNat
          omega
        · have e2 : decide (pk = k) = false := decide_eq_false hpk
          rw [e2]
          obtain ⟨_, _, _, _, _, _, a1, a2, hg, hfz⟩ := row_at hrow3.out hAl.out.symm (show i < n by omega)
          have f1 := hfz (i * 2)
          have f2 := hfz (i * 2 + 1)
          have i1 : (i : Int) < n := by omega
          obtain ⟨A', hA'⟩ : ∃ A', A' = A.set i (pk, ⟨pb, pa, pn, pc⟩) := ⟨_, rfl⟩
          have hd2 : Hid (A'.drop (j + 1) = L.drop (j + 1)) := hide (by rw [hA', List.drop_set_of_lt (by omega), ← List.drop_drop, ← List.drop_drop, hAd.out])
          have ht2 : Hid (A'.take (i + 1) = keepE k (L.take (j + 1))) := hide (by
            rw [hjt.out, keepE_snoc, if_neg hpk, ← hAt.out, hA', List.take_add_one, List.getElem?_set_self (by rw [hAl.out]; omega), List.take_set_of_le (Nat.le_refl _)]
            rfl)
          have hAl2 : Hid (A'.length = n) := hide (by rw [hA', List.length_set]; exact hAl.out)
          have hst2 : Hid ((((w3.setCell ⟨g, i * 2, none⟩ (.string ⟨pk.toArray⟩)).setCell ⟨g, i * 2 + 1, none⟩ (.slice pa pn pc))).ownsRow 0 68 2 (.slice (some ⟨g, 0, none⟩) n c) n (eflat A')) := hide (by
            have h1 := (hrow3.out.stored (i * 2) (.string ⟨pk.toArray⟩)).1
            have h2 := (h1.stored (i * 2 + 1) (.slice pa pn pc)).1
            rw [hA', eflat_set A i (by rw [hAl.out]; omega)]
            exact h2)
          have hg4 : Hid (w.grownBy ((w3.setCell ⟨g, i * 2, none⟩ (.string ⟨pk.toArray⟩)).setCell ⟨g, i * 2 + 1, none⟩ (.slice pa pn pc)) (some g)) := hide (by
            have h1 := hrow3.out.stored (i * 2) (.string ⟨pk.toArray⟩)
            have h2 := h1.1.stored (i * 2 + 1) (.slice pa pn pc)
            exact (hg3.out.trans h1.2).trans h2.2)
          clear e2 hpk hjt hAt hAd hA' hfz
          go_wp2
          refine ⟨⟨i + 1, j + 1, A', by simp, by simp, by omega, hj, hst2, hAl2, hd2, ht2, hg4⟩, ?_⟩
          show n - ((j : Int) + 1).toNat < n - ((j : Nat) : Int).toNat
          omega
      · obtain rfl : j = n := by omega
        have hkk : Hid (A.take i = keepE k L) := hide (by rw [hAt.out, HN.out, List.take_length])
        have hcur : ∃ cur : Array Value, wr.heap[g]? = some (.cells cur 68 (0, 0)) ∧ j * 2 ≤ cur.size := by
          rcases hrow.out.2 with ⟨h', _⟩ | ⟨g', cap', cur, h', hb, hg, hnc, hcm, hcs, htake⟩
          · simp at h'
          · simp only [Value.slice.injEq, Option.some.injEq, Addr.mk.injEq, and_true, true_and] at h'
            obtain ⟨rfl, rfl⟩ := h'
            exact ⟨cur, hg, by rw [hcs]; exact Nat.mul_le_mul_right _ hnc⟩
        obtain ⟨cur, hcur1, hcur2⟩ := hcur
        have hcl := fun ty => run_clear_end (P := Tryz.prog) wr 56 68 ty (.agg #[.string ⟨#[]⟩, .slice none 0 0]) Tryz.underlying56 zero_file (by decide) (by decide) g (i * 2) (j - i) (c - i) cur hcur1 (by omega) (by show i * 2 + (j - i) * 2 ≤ cur.size; omega)
        obtain ⟨Z, hZ⟩ : ∃ Z, Z = (Builtin.zeroCells (Value.agg #[.string ⟨#[]⟩, .slice none 0 0]).cells (j - i)).toList := ⟨_, rfl⟩
        rw [← hZ] at hcl
        have hZl : Z.length = (j - i) * 2 := by rw [hZ]; simp [Builtin.zeroCells, Value.cells]
        have hfr := hide (ownsRow_front hrow.out i (by omega) Z (by rw [hZl]; omega))
        have hch := hide (Chg.setCells (b := g) Z (i * 2) wr)
        have i1 : (i : Int) ≤ j := by omega
        have i2 : (i : Int) ≤ c := by omega
        have i3 : c ≠ i := by omega
        have hal : Hid ((keepE k L).length = i) := hide (by rw [← hkk.out, List.length_take, hAl.out]; omega)
        have hLE := hide hij
        clear hcur1 hcur2 hZ hZl hAt hAd
        go_wp2
        go_ret
        refine ⟨i, rfl, hal.out.symm, ?_, ?_⟩
        · have h1 := hfr.out
          rw [eflat_take, hkk.out] at h1
          exact h1
        · refine ⟨hch.out.os.trans hgr.out.os, hch.out.tape.trans hgr.out.tape, hch.out.output.trans hgr.out.output, Nat.le_trans hgr.out.size hch.out.size, fun q hq hn => ?_⟩
          rw [hch.out.block q (Nat.lt_of_lt_of_le hq hgr.out.size) (by simp only [List.mem_singleton]; exact fun e => hn (by rw [e]; rfl)), hgr.out.block q hq hn]

set_option maxRecDepth 100000 in
set_option maxHeartbeats 1600000 in
theorem fs_forget (sb : Nat) (s : FsS) (F : List Nat) (k : Bs) (w : World) (h : FsRep w sb s F) (hwl : s.waits.length ≤ 1048576) :
    Calls Tryz.prog 67 #[.pointer (some ⟨sb, 0, none⟩), .string ⟨k.toArray⟩] w fun e w' => e = .returned (.tuple #[]) ∧ FsTo w sb F { s with waits := forgotten k s.waits } w' := by
  obtain ⟨mb, wv, lp, E, L, h, rfl⟩ := h
  obtain ⟨c0, c1, c2, c3, c4, fz⟩ := fs_cells h.blk
  have f2 := fz 2
  have hsb := (Array.getElem?_eq_some_iff.1 h.blk).1
  obtain ⟨n1, n2, n3⟩ := h.ne
  obtain ⟨wa, wc, rfl⟩ := (ownsRow_rd h.row).head
  have hll : L.length ≤ 1048576 := by rw [h.waits, List.length_map] at hwl; exact hwl
  have hbx := below_alloc w (.cells #[.string ⟨k.toArray⟩] 9)
  have H := hide h
  have HBX := hide hbx
  have d2 : Hid ((w.alloc (.cells #[.string ⟨k.toArray⟩] 9)).cell? ⟨sb, 2, none⟩ = some (.slice wa L.length wc)) := hide ((hbx.cell (p := ⟨sb, 2, none⟩) hsb).trans c2)
  have hrow := hide (ownsRow_below h.row hbx (Nat.le_refl _))
  have hnb : Hid ((w.alloc (.cells #[.string ⟨k.toArray⟩] 9)).cell? ⟨w.heap.size, 0, none⟩ = some (.string ⟨k.toArray⟩)) := hide (heapCell (heap_alloc_at _ _)).1
  have hwb : Hid ((Value.slice wa L.length wc).ownBlock ≠ some w.heap.size) := hide fun e => by have := (h.row.lt _ e).2; omega
  have hsw : Hid ((Value.slice wa L.length wc).ownBlock ≠ some sb) := hide fun e => (n2 sb e).1 rfl
  have F2 := hide f2
  clear h c0 c1 c2 c3 c4 fz f2 n1 n2 n3 hbx hwl
  go_enter Tryz.func67, Tryz.ntmps67
  have d2' := d2.out
  go_wp2_with fail
  clear d2'
  refine (sl_DeleteFunc wa L.length wc k w.heap.size L _ hrow.out rfl hll hnb.out (by simp) hwb.out).mono ?_
  rintro e w' ⟨m, rfl, hm, hrow', hg⟩
  have hg2 : w.grownBy w' (Value.slice wa L.length wc).ownBlock := ((World.grownBy_alloc w _ none).but _).trans hg
  have hst := hide (hg2.block sb hsb fun e => hsw.out e.symm)
  have d3 : w'.cell? ⟨sb, 2, none⟩ = some (.slice wa L.length wc) := (World.cell?_of_block (w := w) (a := ⟨sb, 2, none⟩) hst.out).trans (fs_cells H.out.blk).2.2.1
  have d4 : w'.frozen? ⟨sb, 2, none⟩ = false := (World.frozen?_of_block (w := w) (a := ⟨sb, 2, none⟩) hst.out).trans F2.out
  have HM := hide hm; have HR := hide hrow'; have HG := hide hg2
  clear hm hrow' hg hg2
  go_wp2
  go_end0
  refine ⟨rfl, H.out.rowTo (L' := keepE k L) HG.out ?_ ?_ rfl rfl rfl rfl ?_ fun p hp => .inl ?_⟩
  · rw [← HM.out]; exact HR.out
  · intro j hj
    left
    revert hj
    cases wa <;> simp [Value.ownBlock]
  · show forgotten k s.waits = _
    rw [H.out.waits]
    unfold forgotten keepE
    rw [List.filter_map]
    rfl
  · unfold keepE at hp
    exact (List.mem_filter.1 hp).1
end Go.Proofs.YtglgjakjhkdoaaaGreatDoor
