/-
  The walk of the law FrameMays.
-/
import Derived.Test.YtnnhgennmlkpmaaFrX
namespace Go.Proofs.Ytnnhgennmlkpmaa
open Go.RowKit
set_option linter.unusedVariables false
set_option linter.unusedSimpArgs false

def encB (f : Fr) : List UInt8 := if mayB f then writeB f else []
def encE (f : Fr) : Int := if mayB f then 0 else 70
theorem fr_encode_any (f : Fr) (a : Option Addr) (c : Nat) (w : World) (hf : f.Ok) (hl : f.b.length ≤ 1000000) (hx : RdB w (.slice a f.b.length c) f.b) :
    Calls Try.prog 9 #[frV f (.slice a f.b.length c)] w fun e w' => ∃ a n c, e = .returned (.tuple #[.slice a n c, .int .u16 (encE f)]) ∧ w'.ownsRow w.heap.size 5 1 (.slice a n c) n (bcells (encB f)) ∧ n = (encB f).length ∧ Below w.heap.size w w' := by
  unfold encB encE
  cases hm : mayB f with
  | true =>
    refine (fr_encode f a c w hf hl hx hm).mono ?_
    rintro e w' ⟨a, c, rfl, ho, hb⟩
    exact ⟨a, _, c, rfl, ho, rfl, hb⟩
  | false =>
    refine (fr_encode_no f a c w hf hl hx hm).mono ?_
    rintro e w' ⟨rfl, hb⟩
    exact ⟨none, 0, 0, rfl, World.ownsRow_nil _ _ _ _, rfl, hb⟩
theorem ref_encode_any (f : Fr) (a : Option Addr) (c : Nat) (w : World) (hf : f.Ok) (hl : f.b.length ≤ 1000000) (hx : RdB w (.slice a f.b.length c) f.b) :
    Calls Try.prog 10 #[frV f (.slice a f.b.length c)] w fun e w' => ∃ a n c, e = .returned (.tuple #[.slice a n c, .int .i64 (encE f)]) ∧ RdB w' (.slice a n c) (encB f) ∧ Below w.heap.size w w' := by
  unfold encB encE
  cases hm : mayB f with
  | true => exact ref_encode f a c w hf hl hx hm
  | false =>
    refine (ref_encode_no f a c w hf hl hx hm).mono ?_
    rintro e w' ⟨rfl, hb⟩
    exact ⟨none, 0, 0, rfl, RdB.nil _, hb⟩
theorem encB_len (f : Fr) (h : f.b.length ≤ 1000000) : (encB f).length ≤ 1000044 := by
  unfold encB
  split
  · rw [writeB_length]; omega
  · simp

set_option maxRecDepth 100000 in
set_option maxHeartbeats 3200000 in
theorem law_FrameMays (W : World) (f : Fr) (hf : f.Ok) (a : Option Addr) (c : Nat) (hx : RdB W (.slice a f.b.length c) f.b) (hc : f.b.length ≤ c) (hc2 : c ≤ 9223372036854775807) :
    Calls Try.prog 3 #[frV f (.slice a f.b.length c)] W fun e w' => e = .returned (.bool true) ∧ Below W.heap.size W w' := by
  have hl : f.b.length ≤ 9223372036854775807 := by omega
  clear hc hc2
  have hA := FrAt.made W f (.slice a f.b.length c)
  have hW0 := hide (below_alloc W (.cells (frCells f (.slice a f.b.length c)) 30))
  have hX := hide (hx.low (below_alloc W (.cells (frCells f (.slice a f.b.length c)) 30)))
  have HF := hide hf; have HA := hide hA; have HX0 := hide hx
  have hfV : ∀ x, frV f x = .agg #[.int .u8 f.kind, .int .u32 f.epoch, .int .u32 f.series, .int .u32 f.chunk, .int .u32 f.bits, .int .u32 f.cnt, .int .u32 f.count, .bool f.closed, .int .u64 f.sum, x, .int .i64 f.n] := fun x => rfl
  have HV := hide hfV
  rw [hfV]
  obtain ⟨len, hlen⟩ : ∃ len, len = f.b.length := ⟨_, rfl⟩
  have HLN := hide hlen
  clear hx hf hA hfV
  by_cases hbig : 4300 < f.b.length
  · go_enter Try.func3, Try.ntmps3
    go_wp2_with (go_at_call 8; refine (fr_known _).mono ?_; rintro e w' ⟨rfl, hb1⟩; have HBw := hide (hW0.out.trans (hb1.mono (by simp))); clear hb1)
    go_ret
    exact ⟨rfl, HBw.out⟩
  go_enter Try.func3, Try.ntmps3
  go_wp2_with fail
  refine (fr_known _).mono ?_
  rintro e w1 ⟨rfl, hb1⟩
  have HB1 := hide (hW0.out.trans (hb1.mono (by simp)))
  have hA1 := HA.out.low hb1
  have HX1 := hide (hX.out.low hb1)
  obtain ⟨c0, c1, c2, c3, c4, c5, c6, c7, c8, c9, c10⟩ := hA1.cells
  have HA1 := hide hA1
  have hsz1 := hA1.lt
  clear hA1 hb1
  have HX1a := hide (HX1.out.low (below_alloc w1 (.cells (frCells f (.slice a f.b.length c)) 30)))
  go_wp2_with (at_builtin; refine wpList_clone_rd rfl (.tmp 20) (.tmp 23) 26 rfl 5 Try.underlying26 info_u8' rfl _ f.b rfl HX1a.out (by omega) ?_)
  intro ao co w2 hown hb2'
  have hb2 : Below (w1.alloc (.cells (frCells f (.slice a f.b.length c)) 30)).heap.size (w1.alloc (.cells (frCells f (.slice a f.b.length c)) 30)) w2 := hb2'.mono (by simp)
  have hA2 := (HA1.out.low (below_alloc w1 (.cells (frCells f (.slice a f.b.length c)) 30))).low hb2
  have hO2 := (FrAt.made w1 f (.slice a f.b.length c)).low hb2
  have HB2 := hide (HB1.out.trans (((below_alloc w1 (.cells (frCells f (.slice a f.b.length c)) 30)).trans (hb2.mono (by simp))).mono HB1.out.size))
  have hge : ∀ k, (Value.slice ao f.b.length co).ownBlock = some k → w1.heap.size < k := fun k hk => by have := (hown.lt k hk).1; omega
  clear c0 c1 c2 c3 c4 c5 c6 c7 c8 c9 c10
  obtain ⟨c0, c1, c2, c3, c4, c5, c6, c7, c8, c9, c10⟩ := hA2.cells
  obtain ⟨d0, d1, d2, d3, d4, d5, d6, d7, d8, d9, d10⟩ := hO2.cells
  have hfz : ∀ o, w2.frozen? ⟨w1.heap.size, o, none⟩ = false := fun o => by simp [World.frozen?, show w2.heap[w1.heap.size]? = _ from hO2]
  have HA2 := hide hA2; have HO2 := hide hO2; have HOWN := hide (ownsRow_rd hown)
  have hsz2 := hO2.lt
  clear hA2 hO2 hb2 hb2' hown HX1a HA1 HX1 hX
  have hO3 : FrAt (w2.setCell ⟨w1.heap.size, 9, none⟩ (.slice ao f.b.length co)) w1.heap.size f (.slice ao f.b.length co) := HO2.out.set (by rfl)
  have hA3 : FrAt (w2.setCell ⟨w1.heap.size, 9, none⟩ (.slice ao f.b.length co)) W.heap.size f (.slice a f.b.length c) := (heap_set_ne (by omega)).trans HA2.out
  have hX3 : RdB (w2.setCell ⟨w1.heap.size, 9, none⟩ (.slice ao f.b.length co)) (.slice ao f.b.length co) f.b := Rd.kept HOWN.out fun k hk _ => heap_set_ne (by have := hge k hk; omega)
  have hB3 : Below W.heap.size W (w2.setCell ⟨w1.heap.size, 9, none⟩ (.slice ao f.b.length co)) := HB2.out.setCell (by show W.heap.size ≤ w1.heap.size; omega) _
  have HO3 := hide hO3; have HA3 := hide hA3; have HX3 := hide hX3; have HB3 := hide hB3
  clear hO3 hA3 hX3 hB3 hge HOWN
  have hs3 : (w2.setCell ⟨w1.heap.size, 9, none⟩ (.slice ao f.b.length co)).heap.size = w2.heap.size := size_setCell _ _ _
  go_wp2_with fail
  rw [← HV.out]
  refine (fr_encode_any f ao co _ HF.out (by omega) HX3.out).mono ?_
  rintro e w4 ⟨a4, n4, cc4, rfl, ho4, hn4, hb4⟩
  have hr4 := ownsRow_rd ho4
  rw [hn4] at hr4 ⊢
  have HR4 := hide hr4
  have HB4 := hide (HB3.out.trans (hb4.mono (by rw [hs3]; have := HB2.out.size; omega)))
  have hA4 := HA3.out.low hb4
  obtain ⟨c0, c1, c2, c3, c4, c5, c6, c7, c8, c9, c10⟩ := hA4.cells
  have HA4 := hide hA4; have HO4 := hide (HO3.out.low hb4); have HX4 := hide (HX3.out.low hb4)
  have hsz4 := hA4.lt
  clear ho4 hr4 hb4 hA4 d0 d1 d2 d3 d4 d5 d6 d7 d8 d9 d10 hfz HA2 HO2 HB2 HO3 HA3 HX3 HB3 hs3 hn4
  go_wp2_with fail
  rw [← HV.out]
  refine (ref_encode_any f a c _ HF.out (by omega) (HX0.out.low HB4.out)).mono ?_
  rintro e w5 ⟨a5, n5, cc5, rfl, hr5, hb5⟩
  have HB6 := hide ((HB4.out.trans (hb5.mono HB4.out.size)).drew)
  have HR6 := hide ((HR4.out.low hb5).low (w' := w5.drew) (Below.refl _ _).drew)
  have HQ6 := hide (RdB.low (w' := w5.drew) hr5 (Below.refl _ _).drew)
  have HA6 := hide ((HA4.out.low hb5).low (w' := w5.drew) (Below.refl _ _).drew)
  have HO6 := hide ((HO4.out.low hb5).low (w' := w5.drew) (Below.refl _ _).drew)
  have HX6 := hide (RdB.low (w' := w5.drew) (HX0.out.low (HB4.out.trans (hb5.mono HB4.out.size))) (Below.refl _ _).drew)
  have HY6 := hide ((HX4.out.low hb5).low (w' := w5.drew) (Below.refl _ _).drew)
  clear c0 c1 c2 c3 c4 c5 c6 c7 c8 c9 c10 hr5 hb5 HA4 HO4 HX4 HR4
  go_wp2
  obtain ⟨W6, hW6⟩ : ∃ W6, W6 = w5.drew := ⟨_, rfl⟩
  rw [← hW6] at HB6 HR6 HQ6 HA6 HO6 HX6 HY6
  have e1 := bytes_toList (encB f)
  refine wp_region_three 25 62 (by kernel_rfl) (by kernel_rfl) rfl (by kernel_rfl) (fun D v W => Below W6.heap.size W6 W) (fun _ => undef) (by rw [← hW6]; exact Below.refl _ _) ?_
  clear hW6
  simp only [List.take_succ_cons, List.take_zero, List.drop_succ_cons, List.drop_zero]
  iterate 1 (refine Hav3.read (e := ?_) (fun v => by rfl) (fun D v w h => h) (fun D v w' hD hS => ?_) ?_; rotate_left; (obtain ⟨c0, c1, c2, c3, c4, c5, c6, c7, c8, c9, c10⟩ := (HA6.out.low hS).cells; clear hS; first | (go_simp; done) | (go_simp; with_reducible rfl)); go_simp)
  refine Hav3.call (.bool (mayB f)) (fun v => by rfl) (fun D v w' hD hS => ?_) ?_
  · have HS := hide hS
    clear hS
    go_simp
    rw [← HV.out]
    go_at_call 11
    refine (fr_may f a c _ HF.out (by omega) (HX6.out.low HS.out)).mono ?_
    rintro e w'' ⟨rfl, hb⟩
    exact ⟨rfl, HS.out.trans (hb.mono HS.out.size)⟩
  go_simp
  iterate 1 (refine Hav3.read (e := ?_) (fun v => by rfl) (fun D v w h => h) (fun D v w' hD hS => ?_) ?_; rotate_left; (obtain ⟨c0, c1, c2, c3, c4, c5, c6, c7, c8, c9, c10⟩ := (HA6.out.low hS).cells; clear hS; first | (go_simp; done) | (go_simp; with_reducible rfl)); go_simp)
  refine Hav3.call (.bool (mayB f)) (fun v => by rfl) (fun D v w' hD hS => ?_) ?_
  · have HS := hide hS
    clear hS
    go_simp
    rw [← HV.out]
    go_at_call 12
    refine (ref_may f a c _ HF.out (by omega) (HX6.out.low HS.out)).mono ?_
    rintro e w'' ⟨rfl, hb⟩
    exact ⟨rfl, HS.out.trans (hb.mono HS.out.size)⟩
  go_simp
  have hwe : IntKind.i64.wrap (encE f) = encE f := by unfold encE; split <;> rfl
  iterate 9 (refine Hav3.read (e := ?_) (fun v => by rfl) (fun D v w h => h) (fun D v w' hD hS => ?_) ?_; rotate_left; (clear hS; first | (go_simp; done) | (go_simp; with_reducible rfl)); go_simp)
  iterate 1 (refine Hav3.read (e := ?_) (fun v => by rfl) (fun D v w h => h) (fun D v w' hD hS => ?_) ?_; rotate_left; (have v1 := convert_rd (encB f) _ _ (HR6.out.low hS); clear hS; first | (go_simp; done) | (go_simp; with_reducible rfl)); go_simp)
  iterate 1 (refine Hav3.read (e := ?_) (fun v => by rfl) (fun D v w h => h) (fun D v w' hD hS => ?_) ?_; rotate_left; (clear hS; first | (go_simp; done) | (go_simp; with_reducible rfl)); go_simp)
  iterate 1 (refine Hav3.read (e := ?_) (fun v => by rfl) (fun D v w h => h) (fun D v w' hD hS => ?_) ?_; rotate_left; (have v2 := convert_rd (encB f) _ _ (RdB.low HQ6.out hS); clear hS; first | (go_simp; done) | (go_simp; with_reducible rfl)); go_simp)
  iterate 4 (refine Hav3.read (e := ?_) (fun v => by rfl) (fun D v w h => h) (fun D v w' hD hS => ?_) ?_; rotate_left; (clear hS; first | (go_simp; done) | (go_simp; with_reducible rfl)); go_simp)
  iterate 1 (refine Hav3.read (e := ?_) (fun v => by rfl) (fun D v w h => h) (fun D v w' hD hS => ?_) ?_; rotate_left; (obtain ⟨d0, d1, d2, d3, d4, d5, d6, d7, d8, d9, d10⟩ := (HO6.out.low hS).cells; clear hS; first | (go_simp; done) | (go_simp; with_reducible rfl)); go_simp)
  iterate 1 (refine Hav3.read (e := ?_) (fun v => by rfl) (fun D v w h => h) (fun D v w' hD hS => ?_) ?_; rotate_left; (clear hS; first | (go_simp; done) | (go_simp; with_reducible rfl)); go_simp)
  iterate 1 (refine Hav3.read (e := ?_) (fun v => by rfl) (fun D v w h => h) (fun D v w' hD hS => ?_) ?_; rotate_left; (obtain ⟨c0, c1, c2, c3, c4, c5, c6, c7, c8, c9, c10⟩ := (HA6.out.low hS).cells; clear hS; first | (go_simp; done) | (go_simp; with_reducible rfl)); go_simp)
  refine Hav3.call (.bool true) (fun v => by rfl) (fun D v w' hD hS => ?_) ?_
  · have HS := hide hS
    clear hS
    go_simp
    go_at_call 13
    refine (ref_same01 ao co f.b f.n a c f.b f.n _ (RdB.low HY6.out HS.out) (RdB.low HX6.out HS.out)).mono ?_
    rintro e w'' ⟨rfl, hb⟩
    have e2 : (decide (f.n = f.n) && (f.b == f.b)) = true := by simp
    rw [e2]
    exact ⟨rfl, HS.out.trans (hb.mono HS.out.size)⟩
  go_simp
  iterate 1 (refine Hav3.read (e := ?_) (fun v => by rfl) (fun D v w h => h) (fun D v w' hD hS => ?_) ?_; rotate_left; (clear hS; first | (go_simp; done) | (go_simp; with_reducible rfl)); go_simp)
  refine Hav3.fin (fun v w' hS => ?_)
  have HS := hide hS
  clear hS
  go_wp2
  go_ret
  exact ⟨rfl, HB6.out.trans (HS.out.mono HB6.out.size)⟩
end Go.Proofs.Ytnnhgennmlkpmaa
