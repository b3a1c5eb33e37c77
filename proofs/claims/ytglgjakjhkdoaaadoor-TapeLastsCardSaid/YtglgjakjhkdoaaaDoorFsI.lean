/-
  The walks of slices.Grow at nil, and slices.Concat of three lists of bytes.
-/
import Derived.Test.YtglgjakjhkdoaaaDoorFsH
import Derived.Lib.AppendZeros
namespace Go.Proofs.YtglgjakjhkdoaaaDoor
open Go.RowKit Go.Maps
set_option linter.unusedVariables false
set_option linter.unusedSimpArgs false

set_option maxRecDepth 100000 in
set_option maxHeartbeats 800000 in
theorem sl_Grow (n : Nat) (hl : n ≤ 1099511627776) (w : World) : Calls Tryd.prog 46 #[.slice none 0 0, .int .i64 n] w fun e w' => ∃ a c, e = .returned (.slice a 0 c) ∧ RowIs w w.heap.size (.slice a 0 c) [] w' := by
  by_cases h0 : n = 0
  · subst h0
    go_enter Tryd.func46, Tryd.ntmps46
    go_wp2
    go_ret
    exact ⟨none, 0, rfl, World.ownsRow_nil _ _ _ _, Below.refl _ _, Nat.le_refl _⟩
  · have i0 : ¬ ((n : Int) < 0) := by omega
    have i1 : (0 : Int) < n := by omega
    obtain ⟨i, hi, hz0, hz1, hz2⟩ := info_parts u8_info
    have hr := fun ty => Lib.run_append_nil_zeros (P := Tryd.prog) w 23 3 ty 5 i (.int .u8 0) .i64 .i64 Tryd.underlying23 Tryd.underlying3 hi hz0 n (by omega) (by rw [hz1]; decide) (by omega) (by rw [hz2]; omega)
    have hw : IntKind.i64.wrap (n : Int) = n := wrap64 (by omega) (by omega)
    obtain ⟨cap, hcap⟩ : ∃ cap, cap = grownCap w n 0 5 := ⟨_, rfl⟩
    rw [← hcap] at hr
    have HC := hide hcap
    clear hcap hi hz0 hz1 hz2
    go_enter Tryd.func46, Tryd.ntmps46
    have HR := hide hr
    clear hr
    go_wp2_with (at_builtin; refine Lib.wpList_append_run _ rfl _ _ _ _ rfl _ _ rfl rfl _ _ (HR.out _) ?_)
    go_ret
    have h1 : n ≤ cap := by rw [HC.out]; exact grownCap_ge _ _ _ _
    have h2 : cap ≤ maxLen := by rw [HC.out]; exact grownCap_le_maxLen _ _ _ _ (by unfold maxLen; omega)
    refine ⟨_, cap, rfl, ⟨rfl, .inr ⟨w.heap.size, cap, _, rfl, Nat.le_refl _, heap_alloc_at w.drew _, Nat.zero_le _, h2, ?_, ?_⟩⟩, below_undrew ((Below.refl w.heap.size w.drew).alloc (Nat.le_refl _) _), by simp⟩
    · simp [Builtin.zeroCells, Value.cells]
      omega
    · simp [bcells]

/-- three lists of bytes that lie in a row -/
def Three (w : World) (g : Nat) (x y z : Bs) : Prop := ∃ ax nx cx ay ny cy az nz cz, w.heap[g]? = some (.cells #[.slice ax nx cx, .slice ay ny cy, .slice az nz cz] 23 (0, 0)) ∧ RdB w (.slice ax nx cx) x ∧ nx = x.length ∧ RdB w (.slice ay ny cy) y ∧ ny = y.length ∧ RdB w (.slice az nz cz) z ∧ nz = z.length

set_option maxRecDepth 100000 in
set_option maxHeartbeats 1600000 in
theorem sl_Concat (g : Nat) (x y z : Bs) (w : World) (h : Three w g x y z) (hl : x.length + y.length + z.length ≤ 1099511627776) :
    Calls Tryd.prog 34 #[.slice (some ⟨g, 0, none⟩) 3 3] w fun e w' => ∃ a n c, e = .returned (.slice a n c) ∧ Fresh w w' a n c (x ++ y ++ z) := by
  obtain ⟨ax, nx, cx, ay, ny, cy, az, nz, cz, h0, hx, hnx, hy, hny, hz, hnz⟩ := h
  have hg := (Array.getElem?_eq_some_iff.1 h0).1
  have c0 : w.cell? ⟨g, 0, none⟩ = some (.slice ax nx cx) := by simp [World.cell?, h0]
  have c1 : w.cell? ⟨g, 1, none⟩ = some (.slice ay ny cy) := by simp [World.cell?, h0]
  have c2 : w.cell? ⟨g, 2, none⟩ = some (.slice az nz cz) := by simp [World.cell?, h0]
  have HX := hide hx; have HY := hide hy; have HZ := hide hz
  have HC0 := hide c0; have HC1 := hide c1; have HC2 := hide c2
  have HNX := hide hnx; have HNY := hide hny; have HNZ := hide hnz
  have hs : nx + ny + nz ≤ 1099511627776 := by omega
  have g1 : IntKind.i64.wrap (nx : Int) = nx := wrap64 (by omega) (by omega)
  have g2 : IntKind.i64.wrap ((nx : Int) + ny) = (nx : Int) + ny := wrap64 (by omega) (by omega)
  have g3 : IntKind.i64.wrap ((nx : Int) + ny + nz) = (nx : Int) + ny + nz := wrap64 (by omega) (by omega)
  have i1 : ¬ ((nx : Int) < 0) := by omega
  have i2 : ¬ ((nx : Int) + ny < 0) := by omega
  have i3 : ¬ ((nx : Int) + ny + nz < 0) := by omega
  clear h0 hx hy hz hnx hny hnz
  go_enter Tryd.func34, Tryd.ntmps34
  go_wp2
  go_loop [3, 5, 11] (fun sv tv iv => ∃ i : Nat, i ≤ 3 ∧ iv = .int .i64 i ∧ sv = .int .i64 ((if 0 < i then (nx : Int) else 0) + (if 1 < i then (ny : Int) else 0) + (if 2 < i then (nz : Int) else 0))) (fun _ _ iv => match iv with | .int _ j => 3 - j.toNat | _ => 0)
  case atStart => exact ⟨0, by omega, rfl, rfl⟩
  case round =>
    obtain ⟨i, hi, rfl, rfl⟩ := hrel
    match i, hi with
    | 0, _ =>
      simp only [Nat.lt_irrefl, if_false, if_true, Nat.zero_lt_one, Nat.reduceLT, Int.add_zero, Int.zero_add]
      go_wp2
      exact ⟨⟨1, by omega, rfl, by simp⟩, by decide⟩
    | 1, _ =>
      simp only [Nat.lt_irrefl, if_false, if_true, Nat.zero_lt_one, Nat.reduceLT, Int.add_zero, Int.zero_add]
      go_wp2
      exact ⟨⟨2, by omega, rfl, by simp⟩, by decide⟩
    | 2, _ =>
      simp only [Nat.lt_irrefl, if_false, if_true, Nat.zero_lt_one, Nat.reduceLT, Int.add_zero, Int.zero_add]
      go_wp2
      exact ⟨⟨3, by omega, rfl, by simp⟩, by decide⟩
    | 3, _ =>
      simp only [Nat.lt_irrefl, if_false, if_true, Nat.zero_lt_one, Nat.reduceLT, Int.add_zero, Int.zero_add]
      have e3 : ((nx : Int) + ny + nz) = ((nx + ny + nz : Nat) : Int) := by simp
      rw [e3] at *
      go_wp2_with fail
      refine (sl_Grow (nx + ny + nz) hs w).mono ?_
      rintro e w1 ⟨a1, q1, rfl, hr1⟩
      have HR1 := hide hr1
      have hlow := hide hr1.2.1
      clear hr1 c0 c1 c2 g1 g2 g3 i1 i2 i3 e3
      go_wp2
      go_loopw [6, 8, 27] (fun ov xv iv wr => ∃ (i : Nat) (O : Bs) (a : Option Addr) (n c : Nat), i ≤ 3 ∧ iv = .int .i64 i ∧ ov = .slice a n c ∧ Hid (n = O.length) ∧ Hid (O = (if 0 < i then x else []) ++ (if 1 < i then y else []) ++ (if 2 < i then z else [])) ∧ Hid (RowIs w w.heap.size (.slice a n c) O wr)) (fun _ _ iv _ => match iv with | .int _ j => 3 - j.toNat | _ => 0)
      case atStart => exact ⟨0, [], a1, 0, _, by omega, rfl, rfl, hide rfl, hide rfl, HR1⟩
      case round =>
        obtain ⟨i, O, a, n, c, hi, rfl, rfl, hn, hO, hrow⟩ := hrel
        have hb := hrow.out.2.1
        have c0 : wr.cell? ⟨g, 0, none⟩ = some (.slice ax nx cx) := (hb.cell (p := ⟨g, 0, none⟩) hg).trans HC0.out
        have c1 : wr.cell? ⟨g, 1, none⟩ = some (.slice ay ny cy) := (hb.cell (p := ⟨g, 1, none⟩) hg).trans HC1.out
        have c2 : wr.cell? ⟨g, 2, none⟩ = some (.slice az nz cz) := (hb.cell (p := ⟨g, 2, none⟩) hg).trans HC2.out
        have rx := hide (HX.out.low hb); have ry := hide (HY.out.low hb); have rz := hide (HZ.out.low hb)
        clear hlow HR1
        match i, hi with
        | 0, _ =>
          have hO2 : Hid (O ++ x = x) := hide (by rw [hO.out]; simp)
          have hOl : Hid (O.length ≤ 0) := hide (by rw [hO.out]; simp)
          go_wp2_with (at_builtin; refine wpList_copy_own rfl _ _ 23 rfl w w.heap.size 5 Tryd.underlying23 (by kernel_rfl) _ O rfl (by exact hrow.out) _ x rfl (by exact rx.out) (by have := hOl.out; omega) ?_; intro a1 co1 w1 hown1 hb1; obtain ⟨n1, hn1⟩ : ∃ n, n = (O ++ x).length := ⟨_, rfl⟩; rw [← hn1] at hown1 ⊢; have N1 := hide hn1; have HO1 := hide hown1; have HB1 := hide hb1; skip; clear hn1 hown1 hb1)
          refine ⟨⟨1, O ++ x, a1, n1, co1, by omega, rfl, rfl, N1, hide (by rw [hO2.out]; simp), HO1⟩, by decide⟩
        | 1, _ =>
          have hO2 : Hid (O ++ y = x ++ y) := hide (by rw [hO.out]; simp)
          have hOl : Hid (O.length ≤ x.length) := hide (by rw [hO.out]; simp)
          go_wp2_with (at_builtin; refine wpList_copy_own rfl _ _ 23 rfl w w.heap.size 5 Tryd.underlying23 (by kernel_rfl) _ O rfl (by exact hrow.out) _ y rfl (by exact ry.out) (by have := hOl.out; omega) ?_; intro a1 co1 w1 hown1 hb1; obtain ⟨n1, hn1⟩ : ∃ n, n = (O ++ y).length := ⟨_, rfl⟩; rw [← hn1] at hown1 ⊢; have N1 := hide hn1; have HO1 := hide hown1; have HB1 := hide hb1; skip; clear hn1 hown1 hb1)
          refine ⟨⟨2, O ++ y, a1, n1, co1, by omega, rfl, rfl, N1, hide (by rw [hO2.out]; simp), HO1⟩, by decide⟩
        | 2, _ =>
          have hO2 : Hid (O ++ z = x ++ y ++ z) := hide (by rw [hO.out]; simp)
          have hOl : Hid (O.length ≤ x.length + y.length) := hide (by rw [hO.out]; simp)
          go_wp2_with (at_builtin; refine wpList_copy_own rfl _ _ 23 rfl w w.heap.size 5 Tryd.underlying23 (by kernel_rfl) _ O rfl (by exact hrow.out) _ z rfl (by exact rz.out) (by have := hOl.out; omega) ?_; intro a1 co1 w1 hown1 hb1; obtain ⟨n1, hn1⟩ : ∃ n, n = (O ++ z).length := ⟨_, rfl⟩; rw [← hn1] at hown1 ⊢; have N1 := hide hn1; have HO1 := hide hown1; have HB1 := hide hb1; skip; clear hn1 hown1 hb1)
          refine ⟨⟨3, O ++ z, a1, n1, co1, by omega, rfl, rfl, N1, hide (by rw [hO2.out]; simp), HO1⟩, by decide⟩
        | 3, _ =>
          have hOe : Hid (O = x ++ y ++ z) := hide (by rw [hO.out]; simp)
          clear c0 c1 c2 hO
          go_wp2
          go_ret
          refine ⟨a, n, c, rfl, ?_, by rw [← hOe.out]; exact hn.out, hb⟩
          have h1 := hrow.out.1
          rw [← hn.out, hOe.out] at h1
          exact h1
end Go.Proofs.YtglgjakjhkdoaaaDoor
