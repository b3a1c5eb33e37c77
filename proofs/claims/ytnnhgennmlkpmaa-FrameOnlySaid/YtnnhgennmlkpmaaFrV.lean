/-
  Walks over the reference of frames: Decode.
-/
import Derived.Test.YtnnhgennmlkpmaaFrU
import Derived.Test.YtnnhgennmlkpmaaFrH
namespace Go.Proofs.Ytnnhgennmlkpmaa
open Go.RowKit
set_option linter.unusedVariables false
set_option linter.unusedSimpArgs false

def ToldR (w : World) (f : Fr) (en : Int) (e : Ending) (w' : World) : Prop :=
  ∃ a c, e = .returned (.tuple #[frV f (.slice a f.b.length c), .int .i64 en]) ∧ RdB w' (.slice a f.b.length c) f.b ∧ Below w.heap.size w w'
/-- what a frame's variable is, the last one made -/
structure RF (w5 : World) (g : Fr) (x : Value) (W : World) : Prop where
  f : FrAt W w5.heap.size g x
  low : Below w5.heap.size w5 W
theorem RF.ff {w5 W : World} {g : Fr} {x : Value} (h : RF w5 g x W) : ∀ o, W.frozen? ⟨w5.heap.size, o, none⟩ = false := fun o => by simp [World.frozen?, show W.heap[w5.heap.size]? = _ from h.f]
theorem RF.setF {w5 W : World} {g g' : Fr} {x x' v : Value} {o : Nat} (h : RF w5 g x W) (he : frCells g' x' = (frCells g x).setIfInBounds o v) : RF w5 g' x' (W.setCell ⟨w5.heap.size, o, none⟩ v) :=
  ⟨h.f.set he, h.low.setCell (by simp) _⟩
theorem RF.store {w5 W : World} {g : Fr} {x : Value} (h : RF w5 g x W) (g' : Fr) (x' : Value) : RF w5 g' x' (W.setCells w5.heap.size 0 (frCells g' x').toList) :=
  ⟨h.f.store g' x', below_cells h.low h.low.size (by omega) _⟩
theorem RF.to {w5 W W' : World} {g : Fr} {x : Value} (h : RF w5 g x W) (hb : Below W.heap.size W W') : RF w5 g x W' :=
  ⟨h.f.low hb, h.low.trans (hb.mono h.low.size)⟩
/-- the world while the frame's variable is made -/
def WA (w5 : World) (b8 : Bool) : World := if b8 then w5.alloc (.cells (frCells zeroFr (.slice none 0 0)) 30) else w5
theorem WA.below (w5 : World) (b8 : Bool) : Below w5.heap.size w5 (WA w5 b8) := by
  cases b8
  · exact Below.refl _ _
  · exact below_alloc _ _
theorem refdec_results (tmps : Array Value) (r : Nat) (en : Int) (f : Fr) (x : Value) (W : World) (h2 : tmps.getD 2 undef = .pointer (some ⟨r, 0, none⟩)) (h3 : tmps.getD 3 undef = .int .i64 en) (hA : FrAt W r f x) :
    (results Try.f15 tmps).run Try.prog W = .ok (.tuple #[frV f x, .int .i64 en]) W := by
  obtain ⟨c0, c1, c2, c3, c4, c5, c6, c7, c8, c9, c10⟩ := hA.cells
  simp only [Array.getD_eq_getD_getElem?] at h2 h3
  simp [results, Try.results15, go_sem, h2, h3, c0, c1, c2, c3, c4, c5, c6, c7, c8, c9, c10, frV, frCells]

set_option maxRecDepth 100000 in
set_option maxHeartbeats 1600000 in
theorem ref_decode_len (a : Option Addr) (c : Nat) (b : List UInt8) (w : World) (hl : b.length ≤ 9223372036854775807) (hno : b.length < 44 ∨ 4096 < b.length) :
    Calls Try.prog 15 #[.slice a b.length c] w (ToldR w zeroFr 70) := by
  have hfin : ∀ w', Below w.heap.size w w' → ToldR w zeroFr 70 (.returned (.tuple #[.agg #[.int .u8 0, .int .u32 0, .int .u32 0, .int .u32 0, .int .u32 0, .int .u32 0, .int .u32 0, .bool false, .int .u64 0, .slice none 0 0, .int .i64 0], .int .i64 70])) w' :=
    fun w' h => ⟨none, 0, rfl, RdB.nil w', h⟩
  have HF := hide hfin
  clear hfin
  by_cases h1 : b.length < 44
  · go_enter Try.func15, Try.ntmps15
    go_wp2
    refine bodyPost_ret (v := .tuple #[.agg #[.int .u8 0, .int .u32 0, .int .u32 0, .int .u32 0, .int .u32 0, .int .u32 0, .int .u32 0, .bool false, .int .u64 0, .slice none 0 0, .int .i64 0], .int .i64 70]) (by simp [results, Try.results15, go_sem]) rfl ?_
    exact HF.out _ (below_alloc _ _)
  · go_enter Try.func15, Try.ntmps15
    go_wp2
    refine bodyPost_ret (v := .tuple #[.agg #[.int .u8 0, .int .u32 0, .int .u32 0, .int .u32 0, .int .u32 0, .int .u32 0, .int .u32 0, .bool false, .int .u64 0, .slice none 0 0, .int .i64 0], .int .i64 70]) (by simp [results, Try.results15, go_sem]) rfl ?_
    exact HF.out _ (below_alloc _ _)

theorem unB_append (l : List UInt8) : ∀ (k : Nat) (m : List UInt8), m.length = k → unB (l ++ m) = unB l * 256 ^ k + unB m
  | 0, m, h => by rw [List.eq_nil_of_length_eq_zero h]; simp [unB]
  | k + 1, m, h => by
    obtain ⟨m', c, rfl⟩ : ∃ m' c, m = m' ++ [c] := by
      have hne : m ≠ [] := by intro e; rw [e] at h; simp at h
      exact ⟨m.dropLast, m.getLast hne, (List.dropLast_concat_getLast hne).symm⟩
    rw [← List.append_assoc, unB_snoc, unB_snoc, unB_append l k m' (by simpa using h), Nat.pow_succ]
    simp only [Nat.add_mul, Nat.mul_assoc]
    omega
theorem numW_eight (b : List UInt8) (p : Nat) (h : p + 8 ≤ b.length) : numW b p 8 = num b p * 4294967296 + num b (p + 4) := by
  unfold numW num
  have e : (b.drop p).take 8 = (b.drop p).take 4 ++ (b.drop (p + 4)).take 4 := by
    rw [show (8 : Nat) = 4 + 4 by rfl, List.take_add, List.drop_drop]
  rw [e, unB_append _ 4 _ (by simp; omega)]
def sumOk (b : List UInt8) : Bool := decide (unB (b.drop (b.length - 4)) = crcSum (b.take (b.length - 4)))
def lenOk (b : List UInt8) : Bool := decide (44 ≤ b.length) && decide (b.length ≤ 4096)
/-- what Decode hands back -/
def decF (b : List UInt8) : Fr := if lenOk b && sumOk b then goF b else zeroFr
def decE (b : List UInt8) : Int := if lenOk b then (if sumOk b then goE b else 71) else 70

set_option maxRecDepth 100000 in
set_option maxHeartbeats 3200000 in
theorem ref_decode_in (a : Option Addr) (c : Nat) (b : List UInt8) (w : World) (hx : RdB w (.slice a b.length c) b) (h1 : 44 ≤ b.length) (h2 : b.length ≤ 4096) (hc : b.length ≤ c) (hc2 : c ≤ 9223372036854775807) :
    Calls Try.prog 15 #[.slice a b.length c] w (ToldR w (decF b) (decE b)) := by
  have HX := hide hx
  clear hx
  have i0 : (0 : Int) ≤ (b.length : Int) - 4 := by omega
  have i1 : (b.length : Int) - 4 ≤ b.length := by omega
  obtain ⟨m4, hm4⟩ : ∃ m4, m4 = b.length - 4 := ⟨_, rfl⟩
  have hwr : IntKind.i64.wrap ((b.length : Int) - 4) = (m4 : Int) := by rw [IntKind.wrap_i64]; omega
  have hmx : max (m4 : Int) 0 = (m4 : Int) := by omega
  have q1 : (0 : Int) ≤ (m4 : Int) := by omega
  have q2 : (m4 : Int) ≤ (c : Int) := by omega
  have HM4 := hide hm4
  have HL : Hid (lenOk b = true) := hide (by unfold lenOk; simp; omega)
  obtain ⟨q, hq⟩ : ∃ q, q = sumOk b := ⟨_, rfl⟩
  have HQ := hide hq
  have hqv : ((unB (b.drop m4) : Int) != (crcSum (b.take m4) : Int)) = !q := by
    rw [hq, hm4]
    unfold sumOk
    rw [Bool.eq_iff_iff]
    simp
    omega
  have HQV := hide hqv
  clear hm4 hq hqv
  have hm' := hide hwr; have hmx' := hide hmx
  clear hwr hmx
  go_enter Try.func15, Try.ntmps15
  go_wp2
  have hx1 : RdB (w.alloc (.cells #[.int .u8 0, .int .u32 0, .int .u32 0, .int .u32 0, .int .u32 0, .int .u32 0, .int .u32 0, .bool false, .int .u64 0, .slice none 0 0, .int .i64 0] 30)).drew (.slice a b.length c) b := HX.out.low (below_alloc _ _).drew
  have hr1 : FrAt (w.alloc (.cells #[.int .u8 0, .int .u32 0, .int .u32 0, .int .u32 0, .int .u32 0, .int .u32 0, .int .u32 0, .bool false, .int .u64 0, .slice none 0 0, .int .i64 0] 30)).drew w.heap.size zeroFr (.slice none 0 0) := heap_alloc_at w _
  have hb1 : Below w.heap.size w (w.alloc (.cells #[.int .u8 0, .int .u32 0, .int .u32 0, .int .u32 0, .int .u32 0, .int .u32 0, .int .u32 0, .bool false, .int .u64 0, .slice none 0 0, .int .i64 0] 30)).drew := (below_alloc _ _).drew
  obtain ⟨W1, hW1⟩ : ∃ W1, W1 = (w.alloc (.cells #[.int .u8 0, .int .u32 0, .int .u32 0, .int .u32 0, .int .u32 0, .int .u32 0, .int .u32 0, .bool false, .int .u64 0, .slice none 0 0, .int .i64 0] 30)).drew := ⟨_, rfl⟩
  rw [← hW1] at hx1 hr1 hb1
  have HX1 := hide hx1; have HR1 := hide hr1; have HB1 := hide hb1; have hsz := hr1.lt
  have HT := hide (hx1.take m4 (by have := HM4.out; omega) (by omega))
  have htl : Hid ((b.take m4).length = m4) := hide (by have := HM4.out; simp; omega)
  have hdl : Hid ((b.drop m4).take 4 = b.drop m4) := hide (by rw [List.take_of_length_le]; have := HM4.out; simp; omega)
  clear hx1 hr1 hb1
  have hwr := hm'.out; have hmx := hmx'.out
  refine wp_region_three 13 92 (by kernel_rfl) (by kernel_rfl) rfl (by kernel_rfl) (fun D v w' => w' = W1) (fun _ => undef) hW1.symm ?_
  have HW1 := hide hW1
  clear hW1
  simp only [List.take_succ_cons, List.take_zero, List.drop_succ_cons, List.drop_zero]
  iterate 4 (refine Hav3.read (e := ?_) (fun v => by rfl) (fun D v w h => h) (fun D v w' hD hS => ?_) ?_; rotate_left; (clear hS; first | (go_simp; done) | (go_simp; with_reducible rfl)); go_simp)
  refine Hav3.call (.int .u64 (unB (b.drop m4) : Nat)) (fun v => by rfl) (fun D v w' hD hS => ?_) ?_
  · subst hS
    go_simp
    go_at_call 30
    refine (ref_number a c b m4 4 _ HX1.out (by have := HM4.out; omega) (by omega) (by omega)).mono ?_
    rintro e w'' ⟨rfl, rfl⟩
    unfold numW
    rw [hdl.out]
    exact ⟨rfl, rfl⟩
  go_simp
  iterate 5 (refine Hav3.read (e := ?_) (fun v => by rfl) (fun D v w h => h) (fun D v w' hD hS => ?_) ?_; rotate_left; (clear hS; first | (go_simp; done) | (go_simp; with_reducible rfl)); go_simp)
  refine Hav3.call (.int .u32 (crcSum (b.take m4) : Nat)) (fun v => by rfl) (fun D v w' hD hS => ?_) ?_
  · subst hS
    go_simp
    go_at_call 19
    refine (ref_sum _ (b.take m4) _ HT.out (by rw [htl.out]; omega)).mono ?_
    rintro e w'' ⟨rfl, rfl⟩
    exact ⟨rfl, rfl⟩
  go_simp
  have hcl := crcSum_lt (b.take m4)
  have hqv := HQV.out
  have hwc : IntKind.u64.wrap (crcSum (b.take m4) : Int) = (crcSum (b.take m4) : Int) := by rw [IntKind.wrap_u64]; omega
  iterate 2 (refine Hav3.read (e := ?_) (fun v => by rfl) (fun D v w h => h) (fun D v w' hD hS => ?_) ?_; rotate_left; (clear hS; first | (go_simp; done) | (go_simp; with_reducible rfl)); go_simp)
  refine Hav3.fin (fun v w' hS => ?_)
  subst hS
  clear HW1 hcl hqv hwr hmx hwc
  obtain ⟨c0, c1, c2, c3, c4, c5, c6, c7, c8, c9, c10⟩ := HR1.out.cells
  unfold zeroFr at c0 c1 c2 c3 c4 c5 c6 c7 c8 c10
  simp only at c0 c1 c2 c3 c4 c5 c6 c7 c8 c10
  have zf : ∀ o, w'.frozen? ⟨w.heap.size, o, none⟩ = false := fun o => by simp [World.frozen?, show w'.heap[w.heap.size]? = _ from HR1.out]
  cases q with
  | false =>
    have hg : decF b = zeroFr ∧ decE b = 71 := by unfold decF decE; rw [HL.out, ← HQ.out]; exact ⟨rfl, rfl⟩
    have HG := hide hg
    clear hg
    go_wp2
    refine bodyPost_ret (refdec_results _ w.heap.size 71 zeroFr (.slice none 0 0) _ (by simp) (by simp) (HR1.out.store zeroFr (.slice none 0 0))) rfl ?_
    show ToldR w (decF b) (decE b) _ _
    rw [HG.out.1, HG.out.2]
    exact ⟨none, 0, rfl, RdB.nil _, below_cells (w' := w') (r := w.heap.size) (o := 0) HB1.out (by omega) (by omega) (frCells zeroFr (.slice none 0 0)).toList⟩
  | true =>
    have hg : decF b = goF b ∧ decE b = goE b := by unfold decF decE; rw [HL.out, ← HQ.out]; exact ⟨rfl, rfl⟩
    have HG := hide hg
    clear hg c0 c1 c2 c3 c4 c5 c6 c7 c8 c9 c10 HT htl hdl
    obtain ⟨bb, off, c', he, hc2', hbb⟩ := HX1.out.at (k := 2) (by omega)
    simp only [Value.slice.injEq, true_and] at he
    obtain ⟨rfl, rfl⟩ := he
    have hb27 : b.length > 27 := by omega
    obtain ⟨bb', off', c'', he, hc27, _⟩ := HX1.out.at (k := 27) hb27
    simp only [Value.slice.injEq, Option.some.injEq, Addr.mk.injEq, and_true, true_and] at he
    obtain ⟨⟨rfl, rfl⟩, rfl⟩ := he
    generalize hk0 : b[2] = y2 at *
    generalize hk27 : b[27] = y27 at *
    have HK0 := hide hk0; have HK27 := hide hk27
    clear hk0 hk27
    have hbl2 : (2 : Int) < b.length := by omega
    have hbl27 : (27 : Int) < b.length := by omega
    have hn4 : ∀ k, k + 4 ≤ b.length → num b k < 4294967296 := fun k hk => unB_lt (by simp; omega)
    have n3 := hn4 3 (by omega); have n7 := hn4 7 (by omega); have n11 := hn4 11 (by omega); have n15 := hn4 15 (by omega); have n19 := hn4 19 (by omega); have n23 := hn4 23 (by omega); have n36 := hn4 36 (by omega)
    have n28 := hn4 28 (by omega); have n32 := hn4 32 (by omega)
    have h28 : numW b 28 8 = num b 28 * 4294967296 + num b 32 := numW_eight b 28 (by omega)
    have H28 := hide h28
    clear hn4 h28
    have NX : Hid (∀ (W : World) (p : Nat), Below w'.heap.size w' W → p + 4 ≤ b.length → Calls Try.prog 30 #[.slice (some ⟨bb, off, none⟩) b.length c, .int .i64 p, .int .i64 4] W fun e w' => e = .returned (.int .u64 (num b p : Nat)) ∧ W = w') :=
      hide fun W p hW hp => ref_number _ c b p 4 _ (HX1.out.low hW) hp (by omega) (by omega)
    have bA : ∀ b8, (WA w' b8).cell? ⟨bb, off + 2, none⟩ = some (.int .u8 (y2.toNat : Nat)) := fun b8 => ((WA.below w' b8).cell (p := ⟨bb, off + 2, none⟩) hbb).trans hc2'
    have bB : ∀ b8, (WA w' b8).cell? ⟨bb, off + 27, none⟩ = some (.int .u8 (y27.toNat : Nat)) := fun b8 => ((WA.below w' b8).cell (p := ⟨bb, off + 27, none⟩) hbb).trans hc27
    have u3 : IntKind.u32.wrap (num b 3 : Int) = (num b 3 : Int) := by rw [IntKind.wrap_u32]; omega
    have u7 : IntKind.u32.wrap (num b 7 : Int) = (num b 7 : Int) := by rw [IntKind.wrap_u32]; omega
    have u23 : IntKind.u32.wrap (num b 23 : Int) = (num b 23 : Int) := by rw [IntKind.wrap_u32]; omega
    go_wp2
    refine wp_region_three 20 92 (by kernel_rfl) (by kernel_rfl) rfl (by kernel_rfl) (fun D v W => W = (WA w' (D 19)).drew) (fun _ => undef) rfl ?_
    simp only [List.take_succ_cons, List.take_zero, List.drop_succ_cons, List.drop_zero]
    iterate 4 (refine Hav3.read (e := ?_) (fun v => by rfl) (fun D v w h => h) (fun D v w' hD hS => ?_) ?_; rotate_left; (subst hS; first | (go_simp; done) | (go_simp; with_reducible rfl)); go_simp)
    refine Hav3.call (.int .u64 (num b 3 : Nat)) (fun v => by rfl) (fun D v w' hD hS => ?_) ?_
    · subst hS
      go_simp
      go_at_call 30
      refine (NX.out _ 3 (WA.below _ _).drew (by omega)).mono ?_
      rintro e w'' ⟨rfl, rfl⟩
      exact ⟨rfl, rfl⟩
    go_simp
    iterate 2 (refine Hav3.read (e := ?_) (fun v => by rfl) (fun D v w h => h) (fun D v w' hD hS => ?_) ?_; rotate_left; (subst hS; first | (go_simp; done) | (go_simp; with_reducible rfl)); go_simp)
    refine Hav3.call (.int .u64 (num b 7 : Nat)) (fun v => by rfl) (fun D v w' hD hS => ?_) ?_
    · subst hS
      go_simp
      go_at_call 30
      refine (NX.out _ 7 (WA.below _ _).drew (by omega)).mono ?_
      rintro e w'' ⟨rfl, rfl⟩
      exact ⟨rfl, rfl⟩
    go_simp
    iterate 2 (refine Hav3.read (e := ?_) (fun v => by rfl) (fun D v w h => h) (fun D v w' hD hS => ?_) ?_; rotate_left; (subst hS; first | (go_simp; done) | (go_simp; with_reducible rfl)); go_simp)
    refine Hav3.call (.int .u64 (num b 23 : Nat)) (fun v => by rfl) (fun D v w' hD hS => ?_) ?_
    · subst hS
      go_simp
      go_at_call 30
      refine (NX.out _ 23 (WA.below _ _).drew (by omega)).mono ?_
      rintro e w'' ⟨rfl, rfl⟩
      exact ⟨rfl, rfl⟩
    go_simp
    iterate 6 (refine Hav3.read (e := ?_) (fun v => by rfl) (fun D v w h => h) (fun D v w' hD hS => ?_) ?_; rotate_left; (subst hS; first | (go_simp; done) | (go_simp; with_reducible rfl)); go_simp)
    refine Hav3.call (.int .u64 (numW b 28 8 : Nat)) (fun v => by rfl) (fun D v w' hD hS => ?_) ?_
    · subst hS
      go_simp
      go_at_call 30
      refine (ref_number _ c b 28 8 _ (HX1.out.low (WA.below _ _).drew) (by omega) (by omega) (by omega)).mono ?_
      rintro e w'' ⟨rfl, rfl⟩
      exact ⟨rfl, rfl⟩
    go_simp
    iterate 1 (refine Hav3.read (e := ?_) (fun v => by rfl) (fun D v w h => h) (fun D v w' hD hS => ?_) ?_; rotate_left; (subst hS; first | (go_simp; done) | (go_simp; with_reducible rfl)); go_simp)
    refine Hav3.call (.pointer (some ⟨w'.heap.size, 0, none⟩)) (fun v => by rfl) (fun D v w'' hD hS => ?_) ?_
    · have d8 : D 19 = false := hD.self
      have m8 : mark D 19 19 = true := rfl
      rw [d8] at hS
      subst hS
      unfold WA
      go_simp
      rfl
    refine Hav3.fin (fun v w'' hS => ?_)
    have hS2 : w'' = (WA w' true).drew := hS
    subst hS2
    have hR0 : RF w' zeroFr (.slice none 0 0) (WA w' true).drew := ⟨heap_alloc_at w' _, (WA.below w' true).drew⟩
    obtain ⟨c0, c1, c2, c3, c4, c5, c6, c7, c8, c9, c10⟩ := hR0.f.cells
    have ff := hR0.ff
    have HR0 := hide hR0
    clear hS hR0 bA bB u3 u7 u23
    generalize (WA w' true).drew = W8 at *
    unfold zeroFr at c0 c1 c2 c3 c4 c5 c6 c7 c8 c10
    simp only at c0 c1 c2 c3 c4 c5 c6 c7 c8 c10
    obtain ⟨g1, hg1⟩ : ∃ g1 : Fr, g1 = { zeroFr with kind := y2.toNat, epoch := num b 3, series := num b 7, count := num b 23, closed := ((y27.toNat : Int) == 1), sum := numW b 28 8 } := ⟨_, rfl⟩
    have hR1 := HR0.out.store g1 (.slice none 0 0)
    rw [hg1] at hR1
    have HR1 := hide hR1
    have HG1 := hide hg1
    clear hR1 hg1
    go_wp2_with fail
    refine (NX.out _ 11 (by exact HR1.out.low) (by omega)).mono ?_
    rintro e W9 ⟨rfl, hw⟩
    have hR9 : RF w' g1 (.slice none 0 0) W9 := by rw [← hw, HG1.out]; exact HR1.out
    clear hw c0 c1 c2 c3 c4 c5 c6 c7 c8 c9 c10 ff HR1 HR0
    obtain ⟨c0, c1, c2, c3, c4, c5, c6, c7, c8, c9, c10⟩ := hR9.f.cells
    have ff := hR9.ff
    have HR9 := hide hR9
    clear hR9
    go_wp2_with fail
    refine (NX.out _ 15 HR9.out.low (by omega)).mono ?_
    rintro e W10 ⟨rfl, rfl⟩
    go_wp2_with fail
    refine (NX.out _ 19 HR9.out.low (by omega)).mono ?_
    rintro e W10 ⟨rfl, rfl⟩
    have hR10 := ((HR9.out.setF (o := 3) (v := .int .u32 (num b 11 : Nat)) (g' := { g1 with chunk := num b 11 }) (x' := .slice none 0 0) (by rfl)).setF (o := 4) (v := .int .u32 (num b 15 : Nat)) (g' := { g1 with chunk := num b 11, bits := num b 15 }) (x' := .slice none 0 0) (by rfl)).setF (o := 5) (v := .int .u32 (num b 19 : Nat)) (g' := { g1 with chunk := num b 11, bits := num b 15, cnt := num b 19 }) (x' := .slice none 0 0) (by rfl)
    have HR10 := hide hR10
    clear hR10
    go_wp2_with fail
    refine (NX.out _ 36 (by exact HR10.out.low) (by omega)).mono ?_
    rintro e W11 ⟨rfl, hw⟩
    obtain ⟨g2, hg2⟩ : ∃ g2 : Fr, g2 = { g1 with chunk := num b 11, bits := num b 15, cnt := num b 19 } := ⟨_, rfl⟩
    have hR11 : RF w' g2 (.slice none 0 0) W11 := by rw [← hw, hg2]; exact HR10.out
    have HG2 := hide hg2
    clear hw c0 c1 c2 c3 c4 c5 c6 c7 c8 c9 c10 ff HR9 HR10 hg2
    obtain ⟨c0, c1, c2, c3, c4, c5, c6, c7, c8, c9, c10⟩ := hR11.f.cells
    have ff := hR11.ff
    have hR12 := hR11.setF (o := 10) (v := .int .i64 (num b 36 : Nat)) (g' := { g2 with n := (num b 36 : Nat) }) (x' := .slice none 0 0) (by rfl)
    have HR12 := hide hR12
    clear hR11 hR12
    have h9 := HR12.out.f.cells
    go_wp2
    generalize W11.setCell ⟨w'.heap.size, 10, none⟩ (.int .i64 (num b 36 : Nat)) = W12 at HR12 ⊢
    clear c0 c1 c2 c3 c4 c5 c6 c7 c8 c9 c10 ff h9
    obtain ⟨g3, hg3⟩ : ∃ g3 : Fr, g3 = { g2 with n := (num b 36 : Nat) } := ⟨_, rfl⟩
    rw [← hg3] at HR12
    have HG3 := hide hg3
    clear hg3
    obtain ⟨m, hm⟩ : ∃ m, m = m4 - 40 := ⟨_, rfl⟩
    have l1 : m4 ≤ c := by have := HM4.out; omega
    have l2 : 40 ≤ m4 := by have := HM4.out; omega
    have l3 : m4 ≤ 4092 := by have := HM4.out; omega
    have q3 : (40 : Int) ≤ (m4 : Int) := by omega
    have hmb : ((b.take m4).drop 40).length = m := by have := HM4.out; simp; omega
    have HM := hide hm; have HMB := hide hmb
    have hm4b : m ≤ 4096 := by omega
    have hc40 : (c = 40) = False := by simp; omega
    have hwr := hm'.out; have hmx := hmx'.out
    have CUT : Hid (∀ W, Below w'.heap.size w' W → ∀ cc, RdB W (.slice (some ⟨bb, off + 40, none⟩) (m4 - 40) cc) ((b.take m4).drop 40)) := hide fun W hW cc => by
      have h0 := (HX1.out.low hW).take m4 (by have := HM4.out; omega) (by omega)
      obtain ⟨bt, hbt⟩ : ∃ bt, bt = b.take m4 := ⟨_, rfl⟩
      have e1 : bt.length = m4 := by rw [hbt]; have := HM4.out; simp; omega
      rw [← hbt] at h0 ⊢
      rw [← e1] at h0 ⊢
      have h3 := h0.drop' 40 (by omega) cc
      simpa [Addr.add] using h3
    clear hm hmb
    refine wp_region_three 11 92 (by kernel_rfl) (by kernel_rfl) rfl (by kernel_rfl)
      (fun D v W => RF w' g3 (.slice none 0 0) W ∧ (D 8 = true → ∃ a' c', v 8 = .slice a' m c' ∧ RdB W (.slice a' m c') ((b.take m4).drop 40) ∧ ∀ k, (Value.slice a' m c').ownBlock = some k → w'.heap.size + 1 ≤ k)) (fun _ => undef) ⟨⟨HR12.out.f, HR12.out.low.drew⟩, by simp⟩ ?_
    simp only [List.take_succ_cons, List.take_zero, List.drop_succ_cons, List.drop_zero]
    iterate 2 (refine Hav3.read (e := ?_) (fun v => by rfl) (fun D v w h => h) (fun D v w' hD hS => ?_) ?_; rotate_left; (clear hS; first | (go_simp; done) | (go_simp; with_reducible rfl)); go_simp)
    refine Hav3.read (e := ?_) (fun v => by rfl) (fun D v w h => h) (fun D v w'' hD hS => ?_) ?_; rotate_left; · (obtain ⟨c0, c1, c2, c3, c4, c5, c6, c7, c8, c9, c10⟩ := hS.1.f.cells; clear hS; first | (go_simp; done) | (go_simp; with_reducible rfl))
    go_simp
    iterate 5 (refine Hav3.read (e := ?_) (fun v => by rfl) (fun D v w h => h) (fun D v w' hD hS => ?_) ?_; rotate_left; (clear hS; first | (go_simp; done) | (go_simp; with_reducible rfl)); go_simp)
    refine Hav3.rel (fun v => by rfl) (fun D v w'' hD hS => ?_) ?_
    · have hS1 := hide hS.1
      have hcut := CUT.out _ hS.1.low (c - 40)
      have HCUT := hide hcut
      clear hS hcut
      refine wp_clone_rd (.tmp 67) (.tmp 72) 26 rfl 5 Try.underlying26 info_u8' (by rfl) _ ((b.take m4).drop 40) m HMB.out.symm (by rfl) HCUT.out (by omega) ?_
      intro ao co W13 h1 h2
      refine ⟨_, rfl, ⟨hS1.out.to h2, fun _ => ⟨ao, co, rfl, ?_, fun k hk => Nat.le_trans hS1.out.f.lt (h1.lt k hk).1⟩⟩, trivial⟩
      show Rd _ _ 1 _ _
      rw [HMB.out]
      exact ownsRow_rd h1
    go_simp
    iterate 2 (refine Hav3.read (e := ?_) (fun v => by rfl) (fun D v w h => h) (fun D v w' hD hS => ?_) ?_; rotate_left; (clear hS; first | (go_simp; done) | (go_simp; with_reducible rfl)); go_simp)
    refine Hav3.fin (fun v w'' hS => ?_)
    obtain ⟨h1', h2'⟩ := hS
    obtain ⟨a', c', h8, hrd, hge⟩ := h2' rfl
    rw [h8]
    obtain ⟨c0, c1, c2, c3, c4, c5, c6, c7, c8, c9, c10⟩ := h1'.f.cells
    have ff := h1'.ff
    have H1 := hide h1'; have HRD := hide hrd; have HGE := hide hge
    clear h1' h2' hrd h8 hge hwr hmx hc40
    have hFe : fieldsB b = { g3 with b := (b.take m4).drop 40 } := by
      have e2 : b.getD 2 0 = y2 := by rw [← HK0.out]; simp [List.getD, List.getElem?_eq_getElem (show 2 < b.length by omega)]
      have e27 : b.getD 27 0 = y27 := by rw [← HK27.out]; simp [List.getD, List.getElem?_eq_getElem (show 27 < b.length by omega)]
      have ecl : ((y27.toNat : Int) == 1) = (y27.toNat == 1) := by rw [Bool.eq_iff_iff]; simp; omega
      rw [HG3.out, HG2.out, HG1.out, HM4.out, H28.out]
      unfold fieldsB
      rw [e2, e27]
      simp only [zeroFr, ecl]
    obtain ⟨F, hF⟩ : ∃ F, F = fieldsB b := ⟨_, rfl⟩
    rw [← hF] at hFe
    have hFb : F.b = (b.take m4).drop 40 := by rw [hFe]
    have hok : F.Ok := by
      have hn : ∀ k, k + 4 ≤ b.length → num b k < 4294967296 := fun k hk => unB_lt (by simp; omega)
      rw [hF]
      exact ⟨(b.getD 2 0).toNat_lt, hn 3 (by omega), hn 7 (by omega), hn 11 (by omega), hn 15 (by omega), hn 19 (by omega), hn 23 (by omega), by simp only [fieldsB]; omega, by simp only [fieldsB]; omega, by simp only [fieldsB]; omega⟩
    have hR16 := H1.out.setF (o := 9) (v := .slice a' m c') (g' := F) (x' := .slice a' m c') (by rw [hFe]; rfl)
    have hrd16 : RdB (w''.setCell ⟨w'.heap.size, 9, none⟩ (.slice a' m c')) (.slice a' m c') F.b := by
      refine Rd.kept ?_ fun k hk _ => heap_set_ne (by have := HGE.out k hk; omega)
      have h0 := HRD.out
      rw [← hFb] at h0
      exact h0
    have hlb : F.b.length = m := by rw [hFb]; exact HMB.out
    subst hlb
    have e0 : g3.kind = F.kind := by rw [hFe]
    rw [e0] at c0
    have e1 : g3.epoch = F.epoch := by rw [hFe]
    rw [e1] at c1
    have e2 : g3.series = F.series := by rw [hFe]
    rw [e2] at c2
    have e3 : g3.chunk = F.chunk := by rw [hFe]
    rw [e3] at c3
    have e4 : g3.bits = F.bits := by rw [hFe]
    rw [e4] at c4
    have e5 : g3.cnt = F.cnt := by rw [hFe]
    rw [e5] at c5
    have e6 : g3.count = F.count := by rw [hFe]
    rw [e6] at c6
    have e7 : g3.closed = F.closed := by rw [hFe]
    rw [e7] at c7
    have e8 : g3.sum = F.sum := by rw [hFe]
    rw [e8] at c8
    have e10 : g3.n = F.n := by rw [hFe]
    rw [e10] at c10
    clear e0 e1 e2 e3 e4 e5 e6 e7 e8 e10
    have HR16 := hide hR16; have HRD16 := hide hrd16; have HOK := hide hok; have HFE := hide hF
    clear hR16 hrd16 hok hF hFe hFb HMB HM CUT HG1 HG2 HG3 NX H1 HRD
    have hfV : frV F (.slice a' F.b.length c') = .agg #[.int .u8 F.kind, .int .u32 F.epoch, .int .u32 F.series, .int .u32 F.chunk, .int .u32 F.bits, .int .u32 F.cnt, .int .u32 F.count, .bool F.closed, .int .u64 F.sum, .slice a' F.b.length c', .int .i64 F.n] := rfl
    have HV := hide hfV
    clear hfV
    have HZ0 : Hid (∀ W, Below w'.heap.size w' W → FrAt W w.heap.size zeroFr (.slice none 0 0) ∧ Below w.heap.size w W ∧ (∀ o, W.frozen? ⟨w.heap.size, o, none⟩ = false)) := hide fun W hW => by
      have h := HR1.out.low hW
      exact ⟨h, HB1.out.trans (hW.mono HB1.out.size), fun o => by simp [World.frozen?, show W.heap[w.heap.size]? = _ from h]⟩
    by_cases hm : mayB F = true
    case neg =>
      have hm0 : mayB F = false := by simpa using hm
      have HM0 := hide hm0
      clear hm hm0
      go_wp2_with fail
      rw [← HV.out]
      refine (ref_encode_no F a' c' _ HOK.out (by omega) (by exact HRD16.out) HM0.out).mono ?_
      rintro e W17 ⟨rfl, hb⟩
      have hR17 : RF w' F (.slice a' F.b.length c') W17 := HR16.out.to hb
      have HR17 := hide hR17
      obtain ⟨hz1, hz2, hz3⟩ := HZ0.out W17 hR17.low
      clear c0 c1 c2 c3 c4 c5 c6 c7 c8 c9 c10 ff hR17 hb
      obtain ⟨c0, c1, c2, c3, c4, c5, c6, c7, c8, c9, c10⟩ := hz1.cells
      unfold zeroFr at c0 c1 c2 c3 c4 c5 c6 c7 c8 c10
      simp only at c0 c1 c2 c3 c4 c5 c6 c7 c8 c10
      have HZ1 := hide hz1; have HZ2 := hide hz2
      clear hz1 hz2
      have hg : goF b = zeroFr ∧ goE b = 70 := by unfold goF goE isFr; rw [← HFE.out, HM0.out]; exact ⟨rfl, rfl⟩
      have HG2 := hide hg
      clear hg
      go_wp2
      refine bodyPost_ret (refdec_results _ w.heap.size 70 zeroFr (.slice none 0 0) _ (by simp) (by simp) (HZ1.out.store zeroFr (.slice none 0 0))) rfl ?_
      show ToldR w (decF b) (decE b) _ _
      rw [HG.out.1, HG.out.2, HG2.out.1, HG2.out.2]
      exact ⟨none, 0, rfl, RdB.nil _, below_cells (w' := W17) (r := w.heap.size) (o := 0) HZ2.out (by have := HZ2.out.size; omega) (by omega) (frCells zeroFr (.slice none 0 0)).toList⟩
    have HM1 := hide hm
    clear hm
    obtain ⟨q, hq⟩ : ∃ q, q = (writeB F == b) := ⟨_, rfl⟩
    have HQ2 := hide hq
    clear hq
    go_wp2_with fail
    rw [← HV.out]
    refine (ref_encode F a' c' _ HOK.out (by omega) (by exact HRD16.out) HM1.out).mono ?_
    rintro e W17 ⟨a17, n17, c17, rfl, hw17, hb⟩
    have hR17 : RF w' F (.slice a' F.b.length c') W17 := HR16.out.to hb
    have HR17 := hide hR17
    have HRD17 := hide (HRD16.out.low hb)
    obtain ⟨hz1, hz2, hz3⟩ := HZ0.out W17 hR17.low
    clear c0 c1 c2 c3 c4 c5 c6 c7 c8 c9 c10 ff
    obtain ⟨c0, c1, c2, c3, c4, c5, c6, c7, c8, c9, c10⟩ := hz1.cells
    obtain ⟨d0, d1, d2, d3, d4, d5, d6, d7, d8, d9, d10⟩ := hR17.f.cells
    unfold zeroFr at c0 c1 c2 c3 c4 c5 c6 c7 c8 c10
    simp only at c0 c1 c2 c3 c4 c5 c6 c7 c8 c10
    have v1 := convert_rd (writeB F) _ W17 hw17
    have v2 := convert_rd b _ W17 (HX1.out.low hR17.low)
    have e1 := bytes_toList (writeB F)
    have e2 := bytes_toList b
    have HZ1 := hide hz1; have HZ2 := hide hz2
    have hszw := hz1.lt
    clear hz1 hz2 hR17 hb hw17
    have hq := HQ2.out
    go_wp2
    · have ht : (!writeB F == b) = true := by assumption
      have hq2 : (writeB F == b) = false := by simpa using ht
      have hg : goF b = zeroFr ∧ goE b = 70 := by unfold goF goE isFr; rw [← HFE.out, hq2, HM1.out]; exact ⟨rfl, rfl⟩
      refine bodyPost_ret (refdec_results _ w.heap.size 70 zeroFr (.slice none 0 0) _ (by simp) (by simp) (HZ1.out.store zeroFr (.slice none 0 0))) rfl ?_
      show ToldR w (decF b) (decE b) _ _
      rw [HG.out.1, HG.out.2, hg.1, hg.2]
      exact ⟨none, 0, rfl, RdB.nil _, below_cells (w' := W17) (r := w.heap.size) (o := 0) HZ2.out (by have := HZ2.out.size; omega) (by omega) (frCells zeroFr (.slice none 0 0)).toList⟩
    · have ht : (!writeB F == b) = false := by assumption
      have hq2 : (writeB F == b) = true := by simpa using ht
      have hg : goF b = F ∧ goE b = 0 := by unfold goF goE isFr; rw [← HFE.out, hq2, HM1.out]; exact ⟨rfl, rfl⟩
      refine bodyPost_ret (refdec_results _ w.heap.size 0 F (.slice a' F.b.length c') _ (by simp) (by simp) (HZ1.out.store F (.slice a' F.b.length c'))) rfl ?_
      show ToldR w (decF b) (decE b) _ _
      rw [HG.out.1, HG.out.2, hg.1, hg.2]
      refine ⟨a', c', rfl, ?_, below_cells (w' := W17) (r := w.heap.size) (o := 0) HZ2.out (by have := HZ2.out.size; omega) (by omega) (frCells F (.slice a' F.b.length c')).toList⟩
      have hfin : RdB (W17.setCells w.heap.size 0 (frCells F (.slice a' F.b.length c')).toList) (.slice a' F.b.length c') F.b :=
        Rd.kept HRD17.out fun k hk _ => setCells_other (by have := HGE.out k hk; omega) _ _ _
      exact hfin
/-- Decode of the program, whatever the bytes -/
theorem fr_decode (a : Option Addr) (c : Nat) (b : List UInt8) (w : World) (hx : RdB w (.slice a b.length c) b) (hl : b.length ≤ 9223372036854775807) (hc : b.length ≤ c) (hc2 : c ≤ 9223372036854775807) :
    Calls Try.prog 14 #[.slice a b.length c] w (Told w (decF b) (decE b)) := by
  by_cases hlen : 44 ≤ b.length ∧ b.length ≤ 4096
  · have hL : lenOk b = true := by unfold lenOk; simp; exact hlen
    by_cases hs : unB (b.drop (b.length - 4)) = crcSum (b.take (b.length - 4))
    · have hS : sumOk b = true := by unfold sumOk; simpa using hs
      have h := fr_decode_go a c b w hx hlen.1 hlen.2 hc hc2 hs
      have e : decF b = goF b ∧ decE b = goE b := by unfold decF decE; rw [hL, hS]; exact ⟨rfl, rfl⟩
      rw [e.1, e.2]
      exact h
    · have hS : sumOk b = false := by unfold sumOk; simpa using hs
      have h := fr_decode_sum a c b w hx hlen.1 hlen.2 hc hc2 hs
      have e : decF b = zeroFr ∧ decE b = 71 := by unfold decF decE; rw [hL, hS]; exact ⟨rfl, rfl⟩
      rw [e.1, e.2]
      exact h
  · have hL : lenOk b = false := by unfold lenOk; rw [Bool.eq_false_iff]; simp; omega
    have e : decF b = zeroFr ∧ decE b = 70 := by unfold decF decE; rw [hL]; exact ⟨rfl, rfl⟩
    rw [e.1, e.2]
    exact fr_decode_len a c b w hl (by omega)
theorem ref_decode (a : Option Addr) (c : Nat) (b : List UInt8) (w : World) (hx : RdB w (.slice a b.length c) b) (hl : b.length ≤ 9223372036854775807) (hc : b.length ≤ c) (hc2 : c ≤ 9223372036854775807) :
    Calls Try.prog 15 #[.slice a b.length c] w (ToldR w (decF b) (decE b)) := by
  by_cases hlen : 44 ≤ b.length ∧ b.length ≤ 4096
  · exact ref_decode_in a c b w hx hlen.1 hlen.2 hc hc2
  · have hL : lenOk b = false := by unfold lenOk; rw [Bool.eq_false_iff]; simp; omega
    have e : decF b = zeroFr ∧ decE b = 70 := by unfold decF decE; rw [hL]; exact ⟨rfl, rfl⟩
    rw [e.1, e.2]
    exact ref_decode_len a c b w hl (by omega)
end Go.Proofs.Ytnnhgennmlkpmaa
