/-
  A call on both timers (printed by gen_tij.py).
-/
import Derived.Test.YtjehoingphndnaaTiI
namespace Go.Proofs.Ytjehoingphndnaa
open Go.RowKit Go.Maps
set_option linter.unusedVariables false
set_option linter.unusedSimpArgs false

def opObj (kd k now : Nat) : Obj := .cells #[.int .u8 kd, .int .u32 k, .int .u64 now] 39
theorem opCells {w : World} {sb kd k now : Nat} (h : w.heap[sb]? = some (opObj kd k now)) : w.cell? ⟨sb, 0, none⟩ = some (.int .u8 kd) ∧ w.cell? ⟨sb, 1, none⟩ = some (.int .u32 k) ∧ w.cell? ⟨sb, 2, none⟩ = some (.int .u64 now) := by
  unfold opObj at h
  exact ⟨by simp [World.cell?, h], by simp [World.cell?, h], by simp [World.cell?, h]⟩

set_option maxRecDepth 100000 in
set_option maxHeartbeats 6400000 in
theorem does_again (W : World) (tb tk n rb rk : Nat) (m : Runs) (l : Tl) (T kd k now : Nat) (ks : List (Nat × Obj)) (hkd : kd ≤ 255) (q : kd % 6 = 2) (hk : k < 4294967296) (hnow : now < Md) (htk : tk ≤ 1000) (hrk : rk ≤ 1000) (hn : n ≤ 200) (hT : TBound m l T) (hTT : T ≤ 200) (w : World) (h : Two W w tb tk m n rb rk l [] ks) :
    Calls Try.prog 12 #[.pointer (some ⟨tb, 0, none⟩), .pointer (some ⟨rb, 0, none⟩), .agg #[.int .u8 kd, .int .u32 k, .int .u64 now]] w fun e w' => (∃ b : Bool, e = .returned (.bool b) ∧ (TAgree m l → tk = rk → b = true)) ∧ Two W w' tb tk (setR m (k : Int) (some (0, (now + tk) % Md))) (n + 1) rb rk (insR (k : Int) ((now + rk) % Md) (mdel (k : Int) l)) [] ks := by
  have H := hide (h.alloc (opObj kd k now))
  have hr : Hid (∀ w' m' n' l' rows, Two W w' tb tk m' n' rb rk l' rows ((w.heap.size, opObj kd k now) :: ks) → Two W w' tb tk m' n' rb rk l' [] ks) := hide fun w' m' n' l' rows h => h.less (fun q hq => by simp at hq) (fun q hq => by simp [hq])
  obtain ⟨sb, hsb⟩ : ∃ sb, sb = w.heap.size := ⟨_, rfl⟩
  obtain ⟨w0, hw0⟩ : ∃ w0, w0 = w.alloc (opObj kd k now) := ⟨_, rfl⟩
  rw [← hsb, ← hw0] at H
  rw [← hsb] at hr
  obtain ⟨c0, c1, c2⟩ := opCells (H.out.kept (q := (sb, opObj kd k now)) (by simp))
  have hmd : ((kd : Int)).tmod 6 = ((kd % 6 : Nat) : Int) := by rw [Int.tmod_eq_emod_of_nonneg (by omega)]; omega
  have HTB := hide hT
  have hTl := hT.2.2
  have hw0' : w.alloc (.cells #[.int .u8 kd, .int .u32 k, .int .u64 now] 39) = w0 := hw0.symm
  have HC : Hid (∀ w' m' n' l' rows, Two W w' tb tk m' n' rb rk l' rows ((sb, opObj kd k now) :: ks) → w'.cell? ⟨sb, 1, none⟩ = some (.int .u32 k) ∧ w'.cell? ⟨sb, 2, none⟩ = some (.int .u64 now)) := hide fun w' m' n' l' rows h => (opCells (h.kept (q := (sb, opObj kd k now)) (by simp))).2
  have HQ := hide q
  clear h hT hw0
  simp only at c0 c1 c2
  go_enter Try.func12, Try.ntmps12
  go_upto_region 1 with fail
  rw [← hsb]
  clear hw0' hsb
  go_wp2_with fail
  refine (H.out.tStep (Q := fun e _ => e = .returned (.tuple #[])) fun F hF => tm_Again tb tk n m F k now hk hnow htk (by omega) _ hF).mono ?_
  rintro e w1 ⟨rfl, h1⟩
  have H1 := hide h1
  obtain ⟨f1, f2⟩ := HC.out _ _ _ _ _ h1
  clear h1
  go_wp2_with fail
  refine (H1.out.rStep (Q := fun e _ => e = .returned (.tuple #[])) fun Fr hF => rt_Again W.heap.size rb rk l Fr k now (by omega) _ hF).mono ?_
  rintro e w2 ⟨rfl, h2⟩
  have H2 := hide (hr.out _ _ _ _ _ h2)
  clear h2
  go_wp2
  go_ret
  exact ⟨⟨true, rfl, fun _ _ => rfl⟩, H2.out⟩

set_option maxRecDepth 100000 in
set_option maxHeartbeats 6400000 in
theorem does_stop (W : World) (tb tk n rb rk : Nat) (m : Runs) (l : Tl) (T kd k now : Nat) (ks : List (Nat × Obj)) (hkd : kd ≤ 255) (q : kd % 6 = 3) (hk : k < 4294967296) (hnow : now < Md) (htk : tk ≤ 1000) (hrk : rk ≤ 1000) (hn : n ≤ 200) (hT : TBound m l T) (hTT : T ≤ 200) (w : World) (h : Two W w tb tk m n rb rk l [] ks) :
    Calls Try.prog 12 #[.pointer (some ⟨tb, 0, none⟩), .pointer (some ⟨rb, 0, none⟩), .agg #[.int .u8 kd, .int .u32 k, .int .u64 now]] w fun e w' => (∃ b : Bool, e = .returned (.bool b) ∧ (TAgree m l → tk = rk → b = true)) ∧ Two W w' tb tk (setR m (k : Int) none) (n + 1) rb rk (mdel (k : Int) l) [] ks := by
  have H := hide (h.alloc (opObj kd k now))
  have hr : Hid (∀ w' m' n' l' rows, Two W w' tb tk m' n' rb rk l' rows ((w.heap.size, opObj kd k now) :: ks) → Two W w' tb tk m' n' rb rk l' [] ks) := hide fun w' m' n' l' rows h => h.less (fun q hq => by simp at hq) (fun q hq => by simp [hq])
  obtain ⟨sb, hsb⟩ : ∃ sb, sb = w.heap.size := ⟨_, rfl⟩
  obtain ⟨w0, hw0⟩ : ∃ w0, w0 = w.alloc (opObj kd k now) := ⟨_, rfl⟩
  rw [← hsb, ← hw0] at H
  rw [← hsb] at hr
  obtain ⟨c0, c1, c2⟩ := opCells (H.out.kept (q := (sb, opObj kd k now)) (by simp))
  have hmd : ((kd : Int)).tmod 6 = ((kd % 6 : Nat) : Int) := by rw [Int.tmod_eq_emod_of_nonneg (by omega)]; omega
  have HTB := hide hT
  have hTl := hT.2.2
  have hw0' : w.alloc (.cells #[.int .u8 kd, .int .u32 k, .int .u64 now] 39) = w0 := hw0.symm
  have HC : Hid (∀ w' m' n' l' rows, Two W w' tb tk m' n' rb rk l' rows ((sb, opObj kd k now) :: ks) → w'.cell? ⟨sb, 1, none⟩ = some (.int .u32 k) ∧ w'.cell? ⟨sb, 2, none⟩ = some (.int .u64 now)) := hide fun w' m' n' l' rows h => (opCells (h.kept (q := (sb, opObj kd k now)) (by simp))).2
  have HQ := hide q
  clear h hT hw0
  simp only at c0 c1 c2
  go_enter Try.func12, Try.ntmps12
  go_upto_region 1 with fail
  rw [← hsb]
  clear hw0' hsb
  go_upto_region 7 with fail
  refine wp_region_three 10 60 (by kernel_rfl) (by kernel_rfl) rfl (by kernel_rfl) (fun D v w' => Two W w' tb tk (if D 3 then setR m (k : Int) none else m) (if D 3 then n else n) rb rk (if D 7 then mdel (k : Int) l else l) [] ((sb, opObj kd k now) :: ks)) (fun _ => undef) (H.out.low (Below.refl _ _).drew) ?_
  simp only [List.take_succ_cons, List.take_zero, List.drop_succ_cons, List.drop_zero]
  iterate 3 (refine Hav3.read (e := ?_) (fun v => by rfl) (fun D v w h => h) (fun D v w' hD hS => ?_) ?_; rotate_left; (obtain ⟨f1, f2⟩ := HC.out _ _ _ _ _ hS; clear hS hD; first | (go_simp; done) | (go_simp; with_reducible rfl)); go_simp)
  refine Hav3.call (.bool (m (k : Int)).isSome) (fun v => by rfl) (fun D v w' hD hS => ?_) ?_
  · have d3 : D 3 = false := hD.self
    rw [d3] at hS
    have HS := hide hS
    clear hS hD
    go_simp
    go_at_call 15
    refine (HS.out.tStep (Q := fun e _ => e = .returned (.bool (m (k : Int)).isSome)) fun F hF => tm_Stop tb tk n m F k hk _ hF).mono ?_
    rintro e w'' ⟨rfl, h1⟩
    exact ⟨rfl, h1⟩
  go_simp
  iterate 3 (refine Hav3.read (e := ?_) (fun v => by rfl) (fun D v w h => h) (fun D v w' hD hS => ?_) ?_; rotate_left; (obtain ⟨f1, f2⟩ := HC.out _ _ _ _ _ hS; clear hS hD; first | (go_simp; done) | (go_simp; with_reducible rfl)); go_simp)
  refine Hav3.call (.bool (decide ((mdel (k : Int) l).length < l.length))) (fun v => by rfl) (fun D v w' hD hS => ?_) ?_
  · have d7 : D 7 = false := hD.self
    rw [d7] at hS
    have HS := hide hS
    clear hS hD
    go_simp
    go_at_call 19
    refine (HS.out.rStep (Q := fun e _ => e = .returned (.bool (decide ((mdel (k : Int) l).length < l.length)))) fun Fr hF => rt_Stop W.heap.size rb rk l Fr k (by omega) _ hF).mono ?_
    rintro e w'' ⟨rfl, h1⟩
    exact ⟨rfl, h1⟩
  go_simp
  iterate 2 (refine Hav3.read (e := ?_) (fun v => by rfl) (fun D v w h => h) (fun D v w' hD hS => ?_) ?_; rotate_left; (skip; clear hS hD; first | (go_simp; done) | (go_simp; with_reducible rfl)); go_simp)
  refine Hav3.fin (fun v w' hS => ?_)
  have HS := hide (hr.out _ _ _ _ _ ((show Two W w' tb tk (setR m (k : Int) none) (n) rb rk (mdel (k : Int) l) [] ((sb, opObj kd k now) :: ks) from hS).more (n' := n + 1) (by omega)))
  clear hS
  go_wp2
  go_ret
  refine ⟨⟨_, rfl, fun ha hb => ?_⟩, HS.out⟩
  rw [ha.ran]; simp

set_option maxRecDepth 100000 in
set_option maxHeartbeats 6400000 in
theorem does_start (W : World) (tb tk n rb rk : Nat) (m : Runs) (l : Tl) (T kd k now : Nat) (ks : List (Nat × Obj)) (hkd : kd ≤ 255) (q : ¬ kd % 6 = 2 ∧ ¬ kd % 6 = 3 ∧ ¬ kd % 6 = 4 ∧ ¬ kd % 6 = 5) (hk : k < 4294967296) (hnow : now < Md) (htk : tk ≤ 1000) (hrk : rk ≤ 1000) (hn : n ≤ 200) (hT : TBound m l T) (hTT : T ≤ 200) (w : World) (h : Two W w tb tk m n rb rk l [] ks) :
    Calls Try.prog 12 #[.pointer (some ⟨tb, 0, none⟩), .pointer (some ⟨rb, 0, none⟩), .agg #[.int .u8 kd, .int .u32 k, .int .u64 now]] w fun e w' => (∃ b : Bool, e = .returned (.bool b) ∧ (TAgree m l → tk = rk → b = true)) ∧ Two W w' tb tk (startM tk m (k : Int) now) (n + 1) rb rk (startL rk l (k : Int) now) [] ks := by
  have H := hide (h.alloc (opObj kd k now))
  have hr : Hid (∀ w' m' n' l' rows, Two W w' tb tk m' n' rb rk l' rows ((w.heap.size, opObj kd k now) :: ks) → Two W w' tb tk m' n' rb rk l' [] ks) := hide fun w' m' n' l' rows h => h.less (fun q hq => by simp at hq) (fun q hq => by simp [hq])
  obtain ⟨sb, hsb⟩ : ∃ sb, sb = w.heap.size := ⟨_, rfl⟩
  obtain ⟨w0, hw0⟩ : ∃ w0, w0 = w.alloc (opObj kd k now) := ⟨_, rfl⟩
  rw [← hsb, ← hw0] at H
  rw [← hsb] at hr
  obtain ⟨c0, c1, c2⟩ := opCells (H.out.kept (q := (sb, opObj kd k now)) (by simp))
  have hmd : ((kd : Int)).tmod 6 = ((kd % 6 : Nat) : Int) := by rw [Int.tmod_eq_emod_of_nonneg (by omega)]; omega
  have HTB := hide hT
  have hTl := hT.2.2
  have hw0' : w.alloc (.cells #[.int .u8 kd, .int .u32 k, .int .u64 now] 39) = w0 := hw0.symm
  have HC : Hid (∀ w' m' n' l' rows, Two W w' tb tk m' n' rb rk l' rows ((sb, opObj kd k now) :: ks) → w'.cell? ⟨sb, 1, none⟩ = some (.int .u32 k) ∧ w'.cell? ⟨sb, 2, none⟩ = some (.int .u64 now)) := hide fun w' m' n' l' rows h => (opCells (h.kept (q := (sb, opObj kd k now)) (by simp))).2
  have HQ := hide q
  clear h hT hw0
  simp only at c0 c1 c2
  go_enter Try.func12, Try.ntmps12
  go_upto_region 1 with fail
  rw [← hsb]
  clear hw0' hsb
  go_upto_region 11 with fail
  refine wp_region_three 14 60 (by kernel_rfl) (by kernel_rfl) rfl (by kernel_rfl) (fun D v w' => Two W w' tb tk (if D 5 then startM tk m (k : Int) now else m) (if D 5 then n + 1 else n) rb rk (if D 11 then startL rk l (k : Int) now else l) [] ((sb, opObj kd k now) :: ks)) (fun _ => undef) (H.out.low (Below.refl _ _).drew) ?_
  simp only [List.take_succ_cons, List.take_zero, List.drop_succ_cons, List.drop_zero]
  iterate 5 (refine Hav3.read (e := ?_) (fun v => by rfl) (fun D v w h => h) (fun D v w' hD hS => ?_) ?_; rotate_left; (obtain ⟨f1, f2⟩ := HC.out _ _ _ _ _ hS; clear hS hD; first | (go_simp; done) | (go_simp; with_reducible rfl)); go_simp)
  refine Hav3.call (.bool (m (k : Int)).isNone) (fun v => by rfl) (fun D v w' hD hS => ?_) ?_
  · have d3 : D 5 = false := hD.self
    rw [d3] at hS
    have HS := hide hS
    clear hS hD
    go_simp
    go_at_call 9
    refine (HS.out.tStep (Q := fun e _ => e = .returned (.bool (m (k : Int)).isNone)) fun F hF => tm_Start tb tk n m F k now hk hnow htk (by omega) _ hF).mono ?_
    rintro e w'' ⟨rfl, h1⟩
    exact ⟨rfl, h1⟩
  go_simp
  iterate 5 (refine Hav3.read (e := ?_) (fun v => by rfl) (fun D v w h => h) (fun D v w' hD hS => ?_) ?_; rotate_left; (obtain ⟨f1, f2⟩ := HC.out _ _ _ _ _ hS; clear hS hD; first | (go_simp; done) | (go_simp; with_reducible rfl)); go_simp)
  refine Hav3.call (.bool (mget (k : Int) l).isNone) (fun v => by rfl) (fun D v w' hD hS => ?_) ?_
  · have d7 : D 11 = false := hD.self
    rw [d7] at hS
    have HS := hide hS
    clear hS hD
    go_simp
    go_at_call 22
    refine (HS.out.rStep (Q := fun e _ => e = .returned (.bool (mget (k : Int) l).isNone)) fun Fr hF => rt_Start W.heap.size rb rk l Fr k now (by omega) _ hF).mono ?_
    rintro e w'' ⟨rfl, h1⟩
    exact ⟨rfl, h1⟩
  go_simp
  iterate 2 (refine Hav3.read (e := ?_) (fun v => by rfl) (fun D v w h => h) (fun D v w' hD hS => ?_) ?_; rotate_left; (skip; clear hS hD; first | (go_simp; done) | (go_simp; with_reducible rfl)); go_simp)
  refine Hav3.fin (fun v w' hS => ?_)
  have HS := hide (hr.out _ _ _ _ _ ((show Two W w' tb tk (startM tk m (k : Int) now) (n + 1) rb rk (startL rk l (k : Int) now) [] ((sb, opObj kd k now) :: ks) from hS).more (n' := n + 1) (by omega)))
  clear hS
  go_wp2
  go_ret
  refine ⟨⟨_, rfl, fun ha hb => ?_⟩, HS.out⟩
  rw [ha.eq]; simp

/-- told by the program, by the reference, held against one another -/
structure DueS (W : World) (tb tk n rb rk : Nat) (m : Runs) (l : Tl) (now : Nat) (ks : List (Nat × Obj)) (R : List Int → Prop) (D : Nat → Bool) (v : Nat → Value) (w' : World) : Prop where
  two : ∃ rows, Two W w' tb tk (if D 3 then dueM tk now m else m) n rb rk (if D 7 then l.map (bumpIf rk now) else l) rows ks ∧ (D 3 = true → ∃ L, R L ∧ (v 3, L) ∈ rows) ∧ (D 7 = true → (v 7, dueK now l) ∈ rows)
  b8 : D 8 = true → ∃ b : Bool, v 8 = .bool b ∧ (TAgree m l → b = true)
  b9 : D 9 = true → ∃ b : Bool, v 9 = .bool b ∧ (TAgree m l → b = true)

set_option maxRecDepth 100000 in
set_option maxHeartbeats 6400000 in
theorem does_due4 (W : World) (tb tk n rb rk : Nat) (m : Runs) (l : Tl) (T kd k now : Nat) (ks : List (Nat × Obj)) (hkd : kd ≤ 255) (q : kd % 6 = 4) (hk : k < 4294967296) (hnow : now < Md) (htk : tk ≤ 1000) (hrk : rk ≤ 1000) (hn : n ≤ 200) (hT : TBound m l T) (hTT : T ≤ 200) (w : World) (h : Two W w tb tk m n rb rk l [] ks) :
    Calls Try.prog 12 #[.pointer (some ⟨tb, 0, none⟩), .pointer (some ⟨rb, 0, none⟩), .agg #[.int .u8 kd, .int .u32 k, .int .u64 now]] w fun e w' => (∃ b : Bool, e = .returned (.bool b) ∧ (TAgree m l → tk = rk → b = true)) ∧ Two W w' tb tk (dueM tk now m) (n + 1) rb rk (l.map (bumpIf rk now)) [] ks := by
  have H := hide (h.alloc (opObj kd k now))
  have hr : Hid (∀ w' m' n' l' rows, Two W w' tb tk m' n' rb rk l' rows ((w.heap.size, opObj kd k now) :: ks) → Two W w' tb tk m' n' rb rk l' [] ks) := hide fun w' m' n' l' rows h => h.less (fun q hq => by simp at hq) (fun q hq => by simp [hq])
  obtain ⟨sb, hsb⟩ : ∃ sb, sb = w.heap.size := ⟨_, rfl⟩
  obtain ⟨w0, hw0⟩ : ∃ w0, w0 = w.alloc (opObj kd k now) := ⟨_, rfl⟩
  rw [← hsb, ← hw0] at H
  rw [← hsb] at hr
  obtain ⟨c0, c1, c2⟩ := opCells (H.out.kept (q := (sb, opObj kd k now)) (by simp))
  have hmd : ((kd : Int)).tmod 6 = ((kd % 6 : Nat) : Int) := by rw [Int.tmod_eq_emod_of_nonneg (by omega)]; omega
  have HTB := hide hT
  have hTl := hT.2.2
  have hw0' : w.alloc (.cells #[.int .u8 kd, .int .u32 k, .int .u64 now] 39) = w0 := hw0.symm
  have HC : Hid (∀ w' m' n' l' rows, Two W w' tb tk m' n' rb rk l' rows ((sb, opObj kd k now) :: ks) → w'.cell? ⟨sb, 1, none⟩ = some (.int .u32 k) ∧ w'.cell? ⟨sb, 2, none⟩ = some (.int .u64 now)) := hide fun w' m' n' l' rows h => (opCells (h.kept (q := (sb, opObj kd k now)) (by simp))).2
  have HQ := hide q
  clear h hT hw0
  simp only at c0 c1 c2
  go_enter Try.func12, Try.ntmps12
  go_upto_region 1 with fail
  rw [← hsb]
  clear hw0' hsb
  go_upto_region 10 with fail
  obtain ⟨R, hR⟩ : ∃ R : List Int → Prop, R = fun L => (L.Pairwise fun x y => x < y) ∧ (∀ k, k ∈ L ↔ ∃ r, m k = some r ∧ r.2 ≤ now) ∧ L.length ≤ n := ⟨_, rfl⟩
  have HRR := hide hR
  clear hR
  refine wp_region_three 10 60 (by kernel_rfl) (by kernel_rfl) rfl (by kernel_rfl) (fun D v w' => DueS W tb tk n rb rk m l now ((sb, opObj kd k now) :: ks) R D v w') (fun _ => undef) ⟨⟨[], H.out.low (Below.refl _ _).drew, fun h => (by cases h), fun h => (by cases h)⟩, fun h => (by cases h), fun h => (by cases h)⟩ ?_
  simp only [List.take_succ_cons, List.take_zero, List.drop_succ_cons, List.drop_zero]
  iterate 3 (refine Hav3.read (e := ?_) (fun v => by rfl) (fun D v w h => ⟨h.two, h.b8, h.b9⟩) (fun D v w' hD hS => ?_) ?_; rotate_left; (obtain ⟨rows, hS, _⟩ := hS.two; obtain ⟨f1, f2⟩ := HC.out _ _ _ _ _ hS; clear hS hD; first | (go_simp; done) | (go_simp; with_reducible rfl)); go_simp)
  refine Hav3.rel (fun v => by rfl) (fun D v w' hD hS => ?_) ?_
  · have d3 : D 3 = false := hD.self
    have d8 : D 8 = false := hD.post 8 _ rfl (by kernel_rfl)
    have D9 : Hid (D 9 = false) := hide (hD.post 9 _ rfl (by kernel_rfl))
    obtain ⟨rows, h1, h2, h3⟩ := hS.two
    rw [d3] at h1
    have HS := hide h1; have H3 := hide h3; have D8 := hide d8
    clear hS hD h1 h2 h3 d8
    go_simp
    go_at_call 11
    refine (HS.out.tTold (m' := dueM tk now m) (n' := n) (R := R) fun F hF => (ti_Due tb tk n m F now hnow htk (by omega) (fun k r hr => by have := HTB.out.1 k r hr; omega) _ hF).mono ?_).mono ?_
    · rintro e w'' ⟨L, a, c, rfl, g1, g2, g3, g4, g5, g6⟩
      rw [bumped_due g3] at g5
      exact ⟨L, a, c, rfl, g1, by rw [HRR.out]; exact ⟨g2, g3, g4⟩, g5, g6⟩
    · rintro e w'' ⟨L, u, rfl, g1, g2⟩
      exact ⟨⟨(u, L) :: rows, g2, fun _ => ⟨L, g1, List.mem_cons_self ..⟩, fun h => List.mem_cons_of_mem _ (H3.out h)⟩, fun h => (by rw [show mark D 3 8 = D 8 from rfl, D8.out] at h; cases h), fun h => (by rw [show mark D 3 9 = D 9 from rfl, D9.out] at h; cases h)⟩
  go_simp
  iterate 3 (refine Hav3.read (e := ?_) (fun v => by rfl) (fun D v w h => ⟨h.two, h.b8, h.b9⟩) (fun D v w' hD hS => ?_) ?_; rotate_left; (obtain ⟨rows, hS, _⟩ := hS.two; obtain ⟨f1, f2⟩ := HC.out _ _ _ _ _ hS; clear hS hD; first | (go_simp; done) | (go_simp; with_reducible rfl)); go_simp)
  refine Hav3.rel (fun v => by rfl) (fun D v w' hD hS => ?_) ?_
  · have d7 : D 7 = false := hD.self
    have d8 : D 8 = false := hD.post 8 _ rfl (by kernel_rfl)
    have D9 : Hid (D 9 = false) := hide (hD.post 9 _ rfl (by kernel_rfl))
    obtain ⟨rows, h1, h2, h3⟩ := hS.two
    rw [d7] at h1
    have HS := hide h1; have H2 := hide h2; have D8 := hide d8
    clear hS hD h1 h2 h3 d8
    go_simp
    go_at_call 21
    refine (HS.out.rTold fun Fr hF => rt_Due W.heap.size rb rk l Fr now hrk (by omega) (fun p hp => by have := HTB.out.2.1 p hp; omega) _ hF).mono ?_
    rintro e w'' ⟨u, rfl, g2⟩
    exact ⟨⟨(u, dueK now l) :: rows, g2, fun h => by obtain ⟨L, g3, g4⟩ := H2.out h; exact ⟨L, g3, List.mem_cons_of_mem _ g4⟩, fun _ => List.mem_cons_self ..⟩, fun h => (by rw [show mark D 7 8 = D 8 from rfl, D8.out] at h; cases h), fun h => (by rw [show mark D 7 9 = D 9 from rfl, D9.out] at h; cases h)⟩
  go_simp
  refine Hav3.rel (fun v => by rfl) (fun D v w' hD hS => ?_) ?_
  · have d3 : D 3 = true := hD.pre 3 (by kernel_rfl)
    have d7 : D 7 = true := hD.pre 7 (by kernel_rfl)
    obtain ⟨rows, h1, h2, h3⟩ := hS.two
    obtain ⟨L, g1, g2⟩ := h2 d3
    obtain ⟨a, c, g3, g4⟩ := h1.told g2
    obtain ⟨a', c', g5, g6⟩ := h1.told (h3 d7)
    have d9 : Hid (D 9 = false) := hide (hD.post 9 _ rfl (by kernel_rfl))
    have H1 := hide h1; have G1 := hide g1; have G2 := hide g2; have H3 := hide h3; have G4 := hide g4; have G6 := hide g6; have G35 := hide (And.intro g3 g5); have D7 := hide d7
    have hL1000 : L.length ≤ 1000 := by rw [HRR.out] at g1; have := g1.2.2; omega
    rw [g3, g5]
    clear hS hD h1 h2 h3 g1 g2 g3 g4 g5 g6 d3 d7
    go_simp
    go_at_call 20
    refine (ti_words W.heap.size W.heap.size a a' L.length (dueK now l).length c c' L (dueK now l) hL1000 w' G4.out G6.out).mono ?_
    rintro e w'' ⟨rfl, hb⟩
    refine ⟨⟨rows, H1.out.low hb, fun _ => ⟨L, G1.out, G2.out⟩, fun _ => H3.out D7.out⟩, fun _ => ⟨_, rfl, fun ha => ?_⟩, fun h => (by rw [show mark D 8 9 = D 9 from rfl, d9.out] at h; cases h)⟩
    have g := G1.out
    rw [HRR.out] at g
    simpa using ha.told g.1 g.2.1
  go_simp
  refine Hav3.rel (fun v => by rfl) (fun D v w' hD hS => ?_) ?_
  · have d8 : D 8 = true := hD.pre 8 (by kernel_rfl)
    obtain ⟨b, g1, g2⟩ := hS.b8 d8
    have HS := hide hS
    have G := hide (And.intro g1 g2)
    rw [g1]
    clear hS hD g1 g2 d8
    go_simp
    exact ⟨HS.out.two, HS.out.b8, fun _ => ⟨b, rfl, G.out.2⟩⟩
  go_simp
  refine Hav3.fin (fun v w' hS => ?_)
  obtain ⟨b, g1, g2⟩ := hS.b9 rfl
  obtain ⟨rows, h1, _, _⟩ := hS.two
  have HS := hide (hr.out _ _ _ _ _ ((show Two W w' tb tk (dueM tk now m) n rb rk (l.map (bumpIf rk now)) rows ((sb, opObj kd k now) :: ks) from h1).more (n' := n + 1) (by omega)))
  have G2 := hide g2
  rw [g1]
  clear hS h1 g1 g2
  go_wp2
  go_ret
  exact ⟨⟨b, rfl, fun ha _ => G2.out ha⟩, HS.out⟩

set_option maxRecDepth 100000 in
set_option maxHeartbeats 6400000 in
theorem does_due5 (W : World) (tb tk n rb rk : Nat) (m : Runs) (l : Tl) (T kd k now : Nat) (ks : List (Nat × Obj)) (hkd : kd ≤ 255) (q : kd % 6 = 5) (hk : k < 4294967296) (hnow : now < Md) (htk : tk ≤ 1000) (hrk : rk ≤ 1000) (hn : n ≤ 200) (hT : TBound m l T) (hTT : T ≤ 200) (w : World) (h : Two W w tb tk m n rb rk l [] ks) :
    Calls Try.prog 12 #[.pointer (some ⟨tb, 0, none⟩), .pointer (some ⟨rb, 0, none⟩), .agg #[.int .u8 kd, .int .u32 k, .int .u64 now]] w fun e w' => (∃ b : Bool, e = .returned (.bool b) ∧ (TAgree m l → tk = rk → b = true)) ∧ Two W w' tb tk (dueM tk now m) (n + 1) rb rk (l.map (bumpIf rk now)) [] ks := by
  have H := hide (h.alloc (opObj kd k now))
  have hr : Hid (∀ w' m' n' l' rows, Two W w' tb tk m' n' rb rk l' rows ((w.heap.size, opObj kd k now) :: ks) → Two W w' tb tk m' n' rb rk l' [] ks) := hide fun w' m' n' l' rows h => h.less (fun q hq => by simp at hq) (fun q hq => by simp [hq])
  obtain ⟨sb, hsb⟩ : ∃ sb, sb = w.heap.size := ⟨_, rfl⟩
  obtain ⟨w0, hw0⟩ : ∃ w0, w0 = w.alloc (opObj kd k now) := ⟨_, rfl⟩
  rw [← hsb, ← hw0] at H
  rw [← hsb] at hr
  obtain ⟨c0, c1, c2⟩ := opCells (H.out.kept (q := (sb, opObj kd k now)) (by simp))
  have hmd : ((kd : Int)).tmod 6 = ((kd % 6 : Nat) : Int) := by rw [Int.tmod_eq_emod_of_nonneg (by omega)]; omega
  have HTB := hide hT
  have hTl := hT.2.2
  have hw0' : w.alloc (.cells #[.int .u8 kd, .int .u32 k, .int .u64 now] 39) = w0 := hw0.symm
  have HC : Hid (∀ w' m' n' l' rows, Two W w' tb tk m' n' rb rk l' rows ((sb, opObj kd k now) :: ks) → w'.cell? ⟨sb, 1, none⟩ = some (.int .u32 k) ∧ w'.cell? ⟨sb, 2, none⟩ = some (.int .u64 now)) := hide fun w' m' n' l' rows h => (opCells (h.kept (q := (sb, opObj kd k now)) (by simp))).2
  have HQ := hide q
  clear h hT hw0
  simp only at c0 c1 c2
  go_enter Try.func12, Try.ntmps12
  go_upto_region 1 with fail
  rw [← hsb]
  clear hw0' hsb
  go_upto_region 10 with fail
  obtain ⟨R, hR⟩ : ∃ R : List Int → Prop, R = fun L => (L.Pairwise fun x y => x < y) ∧ (∀ k, k ∈ L ↔ ∃ r, m k = some r ∧ r.2 ≤ now) ∧ L.length ≤ n := ⟨_, rfl⟩
  have HRR := hide hR
  clear hR
  refine wp_region_three 10 60 (by kernel_rfl) (by kernel_rfl) rfl (by kernel_rfl) (fun D v w' => DueS W tb tk n rb rk m l now ((sb, opObj kd k now) :: ks) R D v w') (fun _ => undef) ⟨⟨[], H.out.low (Below.refl _ _).drew, fun h => (by cases h), fun h => (by cases h)⟩, fun h => (by cases h), fun h => (by cases h)⟩ ?_
  simp only [List.take_succ_cons, List.take_zero, List.drop_succ_cons, List.drop_zero]
  iterate 3 (refine Hav3.read (e := ?_) (fun v => by rfl) (fun D v w h => ⟨h.two, h.b8, h.b9⟩) (fun D v w' hD hS => ?_) ?_; rotate_left; (obtain ⟨rows, hS, _⟩ := hS.two; obtain ⟨f1, f2⟩ := HC.out _ _ _ _ _ hS; clear hS hD; first | (go_simp; done) | (go_simp; with_reducible rfl)); go_simp)
  refine Hav3.rel (fun v => by rfl) (fun D v w' hD hS => ?_) ?_
  · have d3 : D 3 = false := hD.self
    have d8 : D 8 = false := hD.post 8 _ rfl (by kernel_rfl)
    have D9 : Hid (D 9 = false) := hide (hD.post 9 _ rfl (by kernel_rfl))
    obtain ⟨rows, h1, h2, h3⟩ := hS.two
    rw [d3] at h1
    have HS := hide h1; have H3 := hide h3; have D8 := hide d8
    clear hS hD h1 h2 h3 d8
    go_simp
    go_at_call 11
    refine (HS.out.tTold (m' := dueM tk now m) (n' := n) (R := R) fun F hF => (ti_Due tb tk n m F now hnow htk (by omega) (fun k r hr => by have := HTB.out.1 k r hr; omega) _ hF).mono ?_).mono ?_
    · rintro e w'' ⟨L, a, c, rfl, g1, g2, g3, g4, g5, g6⟩
      rw [bumped_due g3] at g5
      exact ⟨L, a, c, rfl, g1, by rw [HRR.out]; exact ⟨g2, g3, g4⟩, g5, g6⟩
    · rintro e w'' ⟨L, u, rfl, g1, g2⟩
      exact ⟨⟨(u, L) :: rows, g2, fun _ => ⟨L, g1, List.mem_cons_self ..⟩, fun h => List.mem_cons_of_mem _ (H3.out h)⟩, fun h => (by rw [show mark D 3 8 = D 8 from rfl, D8.out] at h; cases h), fun h => (by rw [show mark D 3 9 = D 9 from rfl, D9.out] at h; cases h)⟩
  go_simp
  iterate 3 (refine Hav3.read (e := ?_) (fun v => by rfl) (fun D v w h => ⟨h.two, h.b8, h.b9⟩) (fun D v w' hD hS => ?_) ?_; rotate_left; (obtain ⟨rows, hS, _⟩ := hS.two; obtain ⟨f1, f2⟩ := HC.out _ _ _ _ _ hS; clear hS hD; first | (go_simp; done) | (go_simp; with_reducible rfl)); go_simp)
  refine Hav3.rel (fun v => by rfl) (fun D v w' hD hS => ?_) ?_
  · have d7 : D 7 = false := hD.self
    have d8 : D 8 = false := hD.post 8 _ rfl (by kernel_rfl)
    have D9 : Hid (D 9 = false) := hide (hD.post 9 _ rfl (by kernel_rfl))
    obtain ⟨rows, h1, h2, h3⟩ := hS.two
    rw [d7] at h1
    have HS := hide h1; have H2 := hide h2; have D8 := hide d8
    clear hS hD h1 h2 h3 d8
    go_simp
    go_at_call 21
    refine (HS.out.rTold fun Fr hF => rt_Due W.heap.size rb rk l Fr now hrk (by omega) (fun p hp => by have := HTB.out.2.1 p hp; omega) _ hF).mono ?_
    rintro e w'' ⟨u, rfl, g2⟩
    exact ⟨⟨(u, dueK now l) :: rows, g2, fun h => by obtain ⟨L, g3, g4⟩ := H2.out h; exact ⟨L, g3, List.mem_cons_of_mem _ g4⟩, fun _ => List.mem_cons_self ..⟩, fun h => (by rw [show mark D 7 8 = D 8 from rfl, D8.out] at h; cases h), fun h => (by rw [show mark D 7 9 = D 9 from rfl, D9.out] at h; cases h)⟩
  go_simp
  refine Hav3.rel (fun v => by rfl) (fun D v w' hD hS => ?_) ?_
  · have d3 : D 3 = true := hD.pre 3 (by kernel_rfl)
    have d7 : D 7 = true := hD.pre 7 (by kernel_rfl)
    obtain ⟨rows, h1, h2, h3⟩ := hS.two
    obtain ⟨L, g1, g2⟩ := h2 d3
    obtain ⟨a, c, g3, g4⟩ := h1.told g2
    obtain ⟨a', c', g5, g6⟩ := h1.told (h3 d7)
    have d9 : Hid (D 9 = false) := hide (hD.post 9 _ rfl (by kernel_rfl))
    have H1 := hide h1; have G1 := hide g1; have G2 := hide g2; have H3 := hide h3; have G4 := hide g4; have G6 := hide g6; have G35 := hide (And.intro g3 g5); have D7 := hide d7
    have hL1000 : L.length ≤ 1000 := by rw [HRR.out] at g1; have := g1.2.2; omega
    rw [g3, g5]
    clear hS hD h1 h2 h3 g1 g2 g3 g4 g5 g6 d3 d7
    go_simp
    go_at_call 20
    refine (ti_words W.heap.size W.heap.size a a' L.length (dueK now l).length c c' L (dueK now l) hL1000 w' G4.out G6.out).mono ?_
    rintro e w'' ⟨rfl, hb⟩
    refine ⟨⟨rows, H1.out.low hb, fun _ => ⟨L, G1.out, G2.out⟩, fun _ => H3.out D7.out⟩, fun _ => ⟨_, rfl, fun ha => ?_⟩, fun h => (by rw [show mark D 8 9 = D 9 from rfl, d9.out] at h; cases h)⟩
    have g := G1.out
    rw [HRR.out] at g
    simpa using ha.told g.1 g.2.1
  go_simp
  refine Hav3.rel (fun v => by rfl) (fun D v w' hD hS => ?_) ?_
  · have d8 : D 8 = true := hD.pre 8 (by kernel_rfl)
    obtain ⟨b, g1, g2⟩ := hS.b8 d8
    have HS := hide hS
    have G := hide (And.intro g1 g2)
    rw [g1]
    clear hS hD g1 g2 d8
    go_simp
    exact ⟨HS.out.two, HS.out.b8, fun _ => ⟨b, rfl, G.out.2⟩⟩
  go_simp
  refine Hav3.fin (fun v w' hS => ?_)
  obtain ⟨b, g1, g2⟩ := hS.b9 rfl
  obtain ⟨rows, h1, _, _⟩ := hS.two
  have HS := hide (hr.out _ _ _ _ _ ((show Two W w' tb tk (dueM tk now m) n rb rk (l.map (bumpIf rk now)) rows ((sb, opObj kd k now) :: ks) from h1).more (n' := n + 1) (by omega)))
  have G2 := hide g2
  rw [g1]
  clear hS h1 g1 g2
  go_wp2
  go_ret
  exact ⟨⟨b, rfl, fun ha _ => G2.out ha⟩, HS.out⟩

theorem ti_does (W : World) (tb tk n rb rk : Nat) (m : Runs) (l : Tl) (T kd k now : Nat) (ks : List (Nat × Obj)) (hkd : kd ≤ 255) (hk : k < 4294967296) (hnow : now < Md) (htk : tk ≤ 1000) (hrk : rk ≤ 1000) (hn : n ≤ 200) (hT : TBound m l T) (hTT : T ≤ 200) (w : World) (h : Two W w tb tk m n rb rk l [] ks) :
    Calls Try.prog 12 #[.pointer (some ⟨tb, 0, none⟩), .pointer (some ⟨rb, 0, none⟩), .agg #[.int .u8 kd, .int .u32 k, .int .u64 now]] w fun e w' => (∃ b : Bool, e = .returned (.bool b) ∧ (TAgree m l → tk = rk → b = true)) ∧ Two W w' tb tk (stepT tk m kd k now) (n + 1) rb rk (stepR rk l kd k now) [] ks := by
  unfold stepT stepR
  by_cases q2 : kd % 6 = 2
  · rw [if_pos q2, if_pos q2]
    exact does_again W tb tk n rb rk m l T kd k now ks hkd q2 hk hnow htk hrk hn hT hTT w h
  rw [if_neg q2, if_neg q2]
  by_cases q3 : kd % 6 = 3
  · rw [if_pos q3, if_pos q3]
    exact does_stop W tb tk n rb rk m l T kd k now ks hkd q3 hk hnow htk hrk hn hT hTT w h
  rw [if_neg q3, if_neg q3]
  by_cases q4 : kd % 6 = 4
  · rw [if_pos (.inl q4), if_pos (.inl q4)]
    exact does_due4 W tb tk n rb rk m l T kd k now ks hkd q4 hk hnow htk hrk hn hT hTT w h
  by_cases q5 : kd % 6 = 5
  · rw [if_pos (.inr q5), if_pos (.inr q5)]
    exact does_due5 W tb tk n rb rk m l T kd k now ks hkd q5 hk hnow htk hrk hn hT hTT w h
  rw [if_neg (by omega), if_neg (by omega)]
  exact does_start W tb tk n rb rk m l T kd k now ks hkd ⟨q2, q3, q4, q5⟩ hk hnow htk hrk hn hT hTT w h

end Go.Proofs.Ytjehoingphndnaa
