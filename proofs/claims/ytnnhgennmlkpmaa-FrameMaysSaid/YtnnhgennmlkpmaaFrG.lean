/-
  Walks over package frame: Decode.
-/
import Derived.Test.YtnnhgennmlkpmaaFrE
import Derived.Test.YtnnhgennmlkpmaaReg3
import Derived.Deep.DeepCutAuto
namespace Go.Proofs.Ytnnhgennmlkpmaa
open Go.RowKit
set_option linter.unusedVariables false
set_option linter.unusedSimpArgs false

def zeroFr : Fr := ⟨0, 0, 0, 0, 0, 0, 0, false, 0, [], 0⟩
def num (b : List UInt8) (k : Nat) : Nat := unB ((b.drop k).take 4)
/-- what bytes would be -/
def fieldsB (b : List UInt8) : Fr :=
  { kind := (b.getD 2 0).toNat, epoch := num b 3, series := num b 7, chunk := num b 11, bits := num b 15, cnt := num b 19, count := num b 23, closed := (b.getD 27 0).toNat == 1,
    sum := num b 28 * 4294967296 + num b 32, b := (b.take (b.length - 4)).drop 40, n := num b 36 }
def isFr (b : List UInt8) : Bool := mayB (fieldsB b) && (writeB (fieldsB b) == b)
def goF (b : List UInt8) : Fr := if isFr b then fieldsB b else zeroFr
def goE (b : List UInt8) : Int := if isFr b then 0 else 70

theorem FrAt.store {w : World} {r : Nat} {f0 : Fr} {x0 : Value} (h : FrAt w r f0 x0) (f : Fr) (x : Value) : FrAt (w.setCells r 0 (frCells f x).toList) r f x := by
  unfold FrAt at h ⊢
  rw [setCells_heap _ 0 _ _ h (by simp [frCells])]
  simp [laid, frCells]
theorem dec_results (tmps : Array Value) (r : Nat) (en : Int) (f : Fr) (x : Value) (W : World) (h2 : tmps.getD 2 undef = .pointer (some ⟨r, 0, none⟩)) (h3 : tmps.getD 3 undef = .int .u16 en) (hA : FrAt W r f x) :
    (results Try.f14 tmps).run Try.prog W = .ok (.tuple #[frV f x, .int .u16 en]) W := by
  obtain ⟨c0, c1, c2, c3, c4, c5, c6, c7, c8, c9, c10⟩ := hA.cells
  simp only [Array.getD_eq_getD_getElem?] at h2 h3
  simp [results, Try.results14, go_sem, h2, h3, c0, c1, c2, c3, c4, c5, c6, c7, c8, c9, c10, frV, frCells]
theorem below_cells {B r o : Nat} {w w' : World} (h : Below B w w') (hB : B ≤ w'.heap.size) (hr : B ≤ r) (vs : List Value) : Below B w (w'.setCells r o vs) :=
  h.trans ((Chg.setCells (b := r) vs o w').below hB (by simpa using hr))

/-- a frame that is handed back, and an error's number -/
def Told (w : World) (f : Fr) (en : Int) (e : Ending) (w' : World) : Prop :=
  ∃ a c, e = .returned (.tuple #[frV f (.slice a f.b.length c), .int .u16 en]) ∧ RdB w' (.slice a f.b.length c) f.b ∧ Below w.heap.size w w' ∧ ∀ k, (Value.slice a f.b.length c).ownBlock = some k → w.heap.size ≤ k

set_option maxRecDepth 100000 in
set_option maxHeartbeats 1600000 in
theorem fr_decode_len (a : Option Addr) (c : Nat) (b : List UInt8) (w : World) (hl : b.length ≤ 9223372036854775807) (hno : b.length < 44 ∨ 4096 < b.length) :
    Calls Try.prog 14 #[.slice a b.length c] w (Told w zeroFr 70) := by
  have hfin : ∀ w', Below w.heap.size w w' → Told w zeroFr 70 (.returned (.tuple #[.agg #[.int .u8 0, .int .u32 0, .int .u32 0, .int .u32 0, .int .u32 0, .int .u32 0, .int .u32 0, .bool false, .int .u64 0, .slice none 0 0, .int .i64 0], .int .u16 70])) w' :=
    fun w' h => ⟨none, 0, rfl, RdB.nil w', h, fun k hk => by cases hk⟩
  have HF := hide hfin
  clear hfin
  by_cases h1 : b.length < 44
  · go_enter Try.func14, Try.ntmps14
    go_wp2
    refine bodyPost_ret (v := .tuple #[.agg #[.int .u8 0, .int .u32 0, .int .u32 0, .int .u32 0, .int .u32 0, .int .u32 0, .int .u32 0, .bool false, .int .u64 0, .slice none 0 0, .int .i64 0], .int .u16 70]) (by simp [results, Try.results14, go_sem]) rfl ?_
    exact HF.out _ ((below_alloc _ _).alloc (by simp) _)
  · go_enter Try.func14, Try.ntmps14
    go_wp2
    refine bodyPost_ret (v := .tuple #[.agg #[.int .u8 0, .int .u32 0, .int .u32 0, .int .u32 0, .int .u32 0, .int .u32 0, .int .u32 0, .bool false, .int .u64 0, .slice none 0 0, .int .i64 0], .int .u16 70]) (by simp [results, Try.results14, go_sem]) rfl ?_
    exact HF.out _ ((below_alloc _ _).alloc (by simp) _)

set_option maxRecDepth 100000 in
set_option maxHeartbeats 1600000 in
theorem fr_decode_sum (a : Option Addr) (c : Nat) (b : List UInt8) (w : World) (hx : RdB w (.slice a b.length c) b) (h1 : 44 ≤ b.length) (h2 : b.length ≤ 4096) (hc : b.length ≤ c) (hc2 : c ≤ 9223372036854775807) (hs : unB (b.drop (b.length - 4)) ≠ crcSum (b.take (b.length - 4))) :
    Calls Try.prog 14 #[.slice a b.length c] w (Told w zeroFr 71) := by
  have hfin : ∀ w', Below w.heap.size w w' → Told w zeroFr 71 (.returned (.tuple #[frV zeroFr (.slice none 0 0), .int .u16 71])) w' :=
    fun w' h => ⟨none, 0, rfl, RdB.nil w', h, fun k hk => by cases hk⟩
  have HF := hide hfin; have HX := hide hx; have HS := hide hs
  clear hfin hx hs
  have i0 : (0 : Int) ≤ (b.length : Int) - 4 := by omega
  have i1 : (b.length : Int) - 4 ≤ b.length := by omega
  go_enter Try.func14, Try.ntmps14
  go_wp2
  go_quiet (fail)
  have hx1 : RdB (((w.alloc (.cells #[.slice a b.length c] 26)).alloc (.cells #[.int .u8 0, .int .u32 0, .int .u32 0, .int .u32 0, .int .u32 0, .int .u32 0, .int .u32 0, .bool false, .int .u64 0, .slice none 0 0, .int .i64 0] 30)).drewN nq) (.slice a b.length c) b :=
    HX.out.low (below_drewN ((below_alloc _ _).alloc (by simp) _))
  have hr1 : FrAt (((w.alloc (.cells #[.slice a b.length c] 26)).alloc (.cells #[.int .u8 0, .int .u32 0, .int .u32 0, .int .u32 0, .int .u32 0, .int .u32 0, .int .u32 0, .bool false, .int .u64 0, .slice none 0 0, .int .i64 0] 30)).drewN nq) (w.heap.size + 1) zeroFr (.slice none 0 0) := by
    exact heap_alloc_eq (w := w.alloc (.cells #[.slice a b.length c] 26)) _ (by simp)
  have hp1 : (((w.alloc (.cells #[.slice a b.length c] 26)).alloc (.cells #[.int .u8 0, .int .u32 0, .int .u32 0, .int .u32 0, .int .u32 0, .int .u32 0, .int .u32 0, .bool false, .int .u64 0, .slice none 0 0, .int .i64 0] 30)).drewN nq).heap[w.heap.size]? = some (.cells #[.slice a b.length c] 26 (0, 0)) :=
    (heap_alloc_old _ _ (by simp)).trans (heap_alloc_at w _)
  have hb1 : Below w.heap.size w (((w.alloc (.cells #[.slice a b.length c] 26)).alloc (.cells #[.int .u8 0, .int .u32 0, .int .u32 0, .int .u32 0, .int .u32 0, .int .u32 0, .int .u32 0, .bool false, .int .u64 0, .slice none 0 0, .int .i64 0] 30)).drewN nq) :=
    below_drewN ((below_alloc _ _).alloc (by simp) _)
  generalize ((w.alloc (.cells #[.slice a b.length c] 26)).alloc (.cells #[.int .u8 0, .int .u32 0, .int .u32 0, .int .u32 0, .int .u32 0, .int .u32 0, .int .u32 0, .bool false, .int .u64 0, .slice none 0 0, .int .i64 0] 30)).drewN nq = W1 at hx1 hr1 hp1 hb1
  have hd := hx1.drop (b.length - 4) (by omega) (c - (b.length - 4))
  have e : b.length - (b.length - 4) = (b.drop (b.length - 4)).length := by simp
  rw [e] at hd
  have HD := hide hd; have HE := hide e
  have HX1 := hide hx1; have HR1 := hide hr1; have HP1 := hide hp1; have HB1 := hide hb1
  have hrl := hr1.lt
  clear hd e hx1 hr1 hp1 hb1
  go_wp2_with fail
  rw [HE.out]
  refine (fr_get _ _ (b.drop (b.length - 4)) _ HD.out (by simp; omega) (by simp; omega) (by omega)).mono ?_
  rintro e w' ⟨rfl, rfl⟩
  rw [show (b.drop (b.length - 4)).take 4 = b.drop (b.length - 4) from List.take_of_length_le (by simp; omega)]
  go_wp2_with fail
  refine (crc_new_at W1).mono ?_
  rintro e w2 ⟨rfl, hT, hb2, hlt⟩
  have hcs := cs_new (Below.refl _ W1) hT hb2
  obtain ⟨tb, htb⟩ : ∃ tb, tb = W1.heap.size := ⟨_, rfl⟩
  rw [← htb] at hcs hlt ⊢
  have HC := hide hcs
  clear hT hb2 hcs HE HD htb
  have hx2 := hide (HX1.out.take (b.length - 4) (by omega) (by omega))
  have hln : Hid ((b.take (b.length - 4)).length = b.length - 4) := hide (by simp)
  go_wp2_with fail
  refine (crc_sum_one tb false _ (b.take (b.length - 4)) _ _ (HC.out.alloc _).tab (heap_alloc_eq _ (by simp)) (by omega) (fun w' hc => (HC.out.alloc _).rd hc hx2.out) (by have := hln.out; omega)).mono ?_
  rintro e w5 ⟨rfl, hT5, hc5⟩
  have hb5 := ((HC.out.alloc _).sum hT5 hc5).low
  have HX5 := hide (HX1.out.low hb5); have HR5 := hide (HR1.out.low hb5); have HP5 : Hid (w5.heap[w.heap.size]? = some (.cells #[.slice a b.length c] 26 (0, 0))) := hide ((hb5.block _ (by omega)).trans HP1.out)
  have HB5 : Hid (Below w.heap.size w w5) := hide (HB1.out.trans (hb5.mono HB1.out.size))
  have hrl5 := HR5.out.lt
  clear hT5 hc5 hb5 HC HX1 HR1 HP1 HB1 hx2 hln hlt hrl
  obtain ⟨c0, c1, c2, c3, c4, c5, c6, c7, c8, c9, c10⟩ := HR5.out.cells
  have zf : ∀ o, w5.frozen? ⟨w.heap.size + 1, o, none⟩ = false := fun o => by simp [World.frozen?, show w5.heap[w.heap.size + 1]? = _ from HR5.out]
  have ht : ((unB (b.drop (b.length - 4)) : Int) != (crcSum (b.take (b.length - 4)) : Int)) = true := by rw [bne_iff_ne]; have := HS.out; omega
  unfold zeroFr at c0 c1 c2 c3 c4 c5 c6 c7 c8 c10
  simp only at c0 c1 c2 c3 c4 c5 c6 c7 c8 c10
  go_wp2
  refine bodyPost_ret (dec_results _ (w.heap.size + 1) 71 zeroFr (.slice none 0 0) _ (by simp) (by simp) (HR5.out.store zeroFr (.slice none 0 0))) rfl ?_
  exact HF.out _ (below_cells (w' := w5) (r := w.heap.size + 1) (o := 0) HB5.out (by omega) (by omega) (frCells zeroFr (.slice none 0 0)).toList)
end Go.Proofs.Ytnnhgennmlkpmaa
