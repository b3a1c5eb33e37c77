/-
  A gauge in memory; the walks of its find, Count, Value, Total.
-/
import Derived.Test.YtgolknkapcelpaaDoorGaL
import Derived.Test.YtgolknkapcelpaaDoorOnce
namespace Go.Proofs.YtgolknkapcelpaaDoor
open Go.RowKit Go.Maps
set_option linter.unusedVariables false
set_option linter.unusedSimpArgs false

theorem keysGa : KeyAs Tryd.prog 9 encStr strL (fun l : Bs => l.length ≤ maxLen) := string_as Tryd.underlying9
def isInt : Value → Bool
  | .int .i64 _ => true
  | _ => false
abbrev IntMap (w : World) (mb : Nat) (G : List (Bs × Int)) : Prop := OwnM w Tryd.prog 9 strL isInt (fun n : Int => .int .i64 n) mb G
theorem zero_int (w : World) : (zeroValue 3).run Tryd.prog w = .ok (.int .i64 0) w := by kernel_rfl
theorem wrapI {n : Int} (h0 : -9223372036854775808 ≤ n) (h1 : n ≤ 9223372036854775807) : IntKind.i64.wrap n = n := by
  unfold IntKind.wrap
  simp [IntKind.bits, IntKind.signed]
  omega
theorem wrapU {n : Int} (h0 : 0 ≤ n) (h1 : n ≤ 18446744073709551615) : IntKind.u64.wrap n = n := by
  unfold IntKind.wrap
  simp [IntKind.bits, IntKind.signed]
  omega

/-- the map, by how many names are in it -/
def gE : Nat → List (Bs × Int)
  | 0 => []
  | k + 1 => mput strL (gaNames.getD k []) (k + 1 : Nat) (gE k)
/-- a name's place -/
def nmIdx (k : Bs) : Option Nat := gaNames.findIdx? fun n => decide (n = k)
def withPlace : Nat → List Bs → List (Bs × Int)
  | _, [] => []
  | k, n :: r => (n, ((k + 1 : Nat) : Int)) :: withPlace (k + 1) r
set_option maxRecDepth 100000 in
theorem gE_all : gE 11 = withPlace 0 gaNames := by decide
theorem gE_len (k : Nat) : (gE k).length ≤ k := by
  induction k with
  | zero => simp [gE]
  | succ k ih =>
    unfold gE
    have := mput_length strL (gaNames.getD k []) ((k + 1 : Nat) : Int) (gE k)
    omega
theorem mget_place (k : Bs) : ∀ (L : List Bs) (o : Nat), mget k (withPlace o L) = (L.findIdx? fun n => decide (n = k)).map fun i => ((o + i + 1 : Nat) : Int)
  | [], o => rfl
  | n :: r, o => by
    unfold mget withPlace
    rw [List.find?_cons, List.findIdx?_cons]
    by_cases e : n = k
    · simp [e]
    · simp only [decide_eq_false e]
      have := mget_place k r (o + 1)
      unfold mget at this
      rw [this]
      simp only [Bool.false_eq_true, if_false, Option.map_map]
      congr 1
      funext i
      show ((o + 1 + i + 1 : Nat) : Int) = ((o + (i + 1) + 1 : Nat) : Int)
      congr 1
      omega
theorem mget_gE (k : Bs) : mget k (gE 11) = (nmIdx k).map fun i => ((i + 1 : Nat) : Int) := by
  rw [gE_all, mget_place]
  unfold nmIdx
  congr 1
  funext i
  congr 1
  omega
theorem nmIdx_lt {k : Bs} {i : Nat} (h : nmIdx k = some i) : i < 11 := by
  unfold nmIdx at h
  have := (List.findIdx?_eq_some_iff_getElem.1 h).1
  simpa [gaNames] using this

def u64v (n : Nat) : Value := .int .u64 n
/-- a gauge's cells -/
def GC (d s : Int) (mv : Value) (N : List Nat) : Array Value := (.int .u32 d :: .int .i32 s :: .int .u32 0 :: mv :: N.map u64v).toArray
def GAt (w : World) (gb : Nat) (d s : Int) (mv : Value) (N : List Nat) : Prop := w.heap[gb]? = some (.cells (GC d s mv N) 58 (0, 0))
theorem GAt.facts {w : World} {gb : Nat} {d s : Int} {mv : Value} {N : List Nat} (h : GAt w gb d s mv N) : w.cell? ⟨gb, 0, none⟩ = some (.int .u32 d) ∧ w.cell? ⟨gb, 1, none⟩ = some (.int .i32 s) ∧ w.cell? ⟨gb, 3, none⟩ = some mv ∧ (∀ i, w.frozen? ⟨gb, i, none⟩ = false) ∧ gb < w.heap.size ∧ ∀ (i n : Nat), N[i]? = some n → w.cell? ⟨gb, 4 + i, none⟩ = some (.int .u64 n) := by
  unfold GAt at h
  refine ⟨by simp [World.cell?, h, GC], by simp [World.cell?, h, GC], by simp [World.cell?, h, GC], fun i => by simp [World.frozen?, h], (Array.getElem?_eq_some_iff.1 h).1, fun i n hn => ?_⟩
  simp only [World.cell?, h, GC]
  rw [show 4 + i = i + 1 + 1 + 1 + 1 by omega]
  simp [hn, u64v]
theorem GAt.same {w w' : World} {gb : Nat} {d s : Int} {mv : Value} {N : List Nat} (h : GAt w gb d s mv N) (hk : w'.heap[gb]? = w.heap[gb]?) : GAt w' gb d s mv N := hk.trans h
theorem GAt.low {w w' : World} {gb : Nat} {d s : Int} {mv : Value} {N : List Nat} (h : GAt w gb d s mv N) (hb : Below w.heap.size w w') : GAt w' gb d s mv N := h.same (hb.block gb h.facts.2.2.2.2.1)
theorem GAt.set0 {w : World} {gb : Nat} {d s : Int} {mv : Value} {N : List Nat} (h : GAt w gb d s mv N) (d' : Int) : GAt (w.setCell ⟨gb, 0, none⟩ (.int .u32 d')) gb d' s mv N := by
  unfold GAt at h ⊢
  rw [setCell_heap h]
  simp [GC]
theorem GAt.set1 {w : World} {gb : Nat} {d s : Int} {mv : Value} {N : List Nat} (h : GAt w gb d s mv N) (s' : Int) : GAt (w.setCell ⟨gb, 1, none⟩ (.int .i32 s')) gb d s' mv N := by
  unfold GAt at h ⊢
  rw [setCell_heap h]
  simp [GC]
theorem GAt.set3 {w : World} {gb : Nat} {d s : Int} {mv : Value} {N : List Nat} (h : GAt w gb d s mv N) (mv' : Value) : GAt (w.setCell ⟨gb, 3, none⟩ mv') gb d s mv' N := by
  unfold GAt at h ⊢
  rw [setCell_heap h]
  simp [GC]
theorem GAt.setN {w : World} {gb : Nat} {d s : Int} {mv : Value} {N : List Nat} (h : GAt w gb d s mv N) (i m : Nat) : GAt (w.setCell ⟨gb, 4 + i, none⟩ (.int .u64 m)) gb d s mv (N.set i m) := by
  unfold GAt at h ⊢
  rw [setCell_heap h, show 4 + i = i + 1 + 1 + 1 + 1 by omega]
  simp [GC, List.map_set, u64v]
theorem Chg.ofSet (w : World) (gb i : Nat) (v : Value) : Chg [gb] [gb] w (w.setCell ⟨gb, i, none⟩ v) :=
  ⟨rfl, rfl, rfl, by simp [World.setCell], fun k _ hk => heap_set_ne (by simpa using hk), fun k hk => .inl hk⟩

/-- a gauge that counted N -/
structure GRep (w : World) (gb : Nat) (N : List Nat) (F : List Nat) : Prop where
  len : N.length = 11
  small : ∀ n ∈ N, n ≤ 1000000
  at_ : (GAt w gb 0 0 (.map none) N ∧ F = [gb]) ∨ ∃ mb, GAt w gb 1 0 (.map (some mb)) N ∧ IntMap w mb (gE 11) ∧ mb ≠ gb ∧ F = [gb, mb]
theorem GRep.gb_mem {w : World} {gb : Nat} {N F : List Nat} (h : GRep w gb N F) : gb ∈ F := by
  rcases h.at_ with ⟨_, rfl⟩ | ⟨mb, _, _, _, rfl⟩ <;> simp
theorem GRep.lt {w : World} {gb : Nat} {N F : List Nat} (h : GRep w gb N F) : ∀ k ∈ F, k < w.heap.size := by
  rcases h.at_ with ⟨h1, rfl⟩ | ⟨mb, h1, h2, _, rfl⟩
  · intro k hk
    simp only [List.mem_singleton] at hk
    subst hk
    exact h1.facts.2.2.2.2.1
  · intro k hk
    simp only [List.mem_cons, List.not_mem_nil, or_false] at hk
    rcases hk with rfl | rfl
    · exact h1.facts.2.2.2.2.1
    · exact h2.lt
theorem GRep.same {w w' : World} {gb : Nat} {N F : List Nat} (h : GRep w gb N F) (hk : ∀ k ∈ F, w'.heap[k]? = w.heap[k]?) : GRep w' gb N F := by
  refine ⟨h.len, h.small, ?_⟩
  rcases h.at_ with ⟨h1, rfl⟩ | ⟨mb, h1, h2, h3, rfl⟩
  · exact .inl ⟨h1.same (hk gb (by simp)), rfl⟩
  · exact .inr ⟨mb, h1.same (hk gb (by simp)), h2.same (hk mb (by simp)), h3, rfl⟩
theorem GRep.low {w w' : World} {gb : Nat} {N F : List Nat} (h : GRep w gb N F) (hb : Below w.heap.size w w') : GRep w' gb N F := h.same fun k hk => hb.block k (h.lt k hk)
theorem GRep.chg {w w' : World} {gb : Nat} {N F G G' : List Nat} (h : GRep w gb N F) (hc : Chg G G' w w') (hd : ∀ k ∈ F, k ∉ G) : GRep w' gb N F := h.same fun k hk => hc.block k (h.lt k hk) (hd k hk)
theorem tab_ne {w : World} {gb : Nat} {d s : Int} {mv : Value} {N : List Nat} (h : GAt w gb d s mv N) (ht : Tab w) : 0 ≠ gb := fun e => by
  have h1 := h.facts.1
  have h2 := ht 0 (by omega)
  rw [← e, h2] at h1
  simp at h1

set_option maxRecDepth 100000 in
set_option maxHeartbeats 1600000 in
theorem ga_find1 (gb xb : Nat) (d : Int) (N : List Nat) (w : World) (h : GAt w gb d 1 (.map none) N) (hx : w.cell? ⟨xb, 0, none⟩ = some (.pointer (some ⟨gb, 0, none⟩))) (hne : xb ≠ gb) (ht : Tab w) :
    Calls Tryd.prog 27 #[.pointer (some ⟨xb, 0, none⟩)] w fun e w' => e = .returned (.tuple #[]) ∧ ∃ mb, GAt w' gb d 1 (.map (some mb)) N ∧ IntMap w' mb (gE 11) ∧ w.heap.size ≤ mb ∧ Chg [gb] [gb, mb] w w' := by
  have hmm := @run_makeMap Tryd.prog
  have hxl : xb < w.heap.size := World.block_lt_of_cell? _ _ hx
  obtain ⟨_, _, c3, fz, hgl, _⟩ := h.facts
  have f3 := fz 3
  have H := hide h
  have HT := hide ht
  have hgl0 := hide hgl
  obtain ⟨w1, hw1⟩ : ∃ w1, w1 = (w.setCell ⟨gb, 3, none⟩ (.map (some w.heap.size))).alloc (.map #[] 0) := ⟨_, rfl⟩
  have hb0 := below_alloc (w.setCell ⟨gb, 3, none⟩ (.map (some w.heap.size))) (.map #[] 0)
  have hz0 : (w.setCell ⟨gb, 3, none⟩ (.map (some w.heap.size))).heap.size = w.heap.size := by simp [World.setCell]
  have hA1 : GAt w1 gb d 1 (.map (some w.heap.size)) N := by rw [hw1]; exact (h.set3 _).low hb0
  have hC1 : Chg [gb] [gb] w w1 := by rw [hw1]; exact (Chg.ofSet _ _ _ _).trans (Chg.of_below hb0)
  have hmap1 : IntMap w1 w.heap.size (gE 0) := by
    rw [hw1]
    have := ownM_made (P := Tryd.prog) (kT := 9) (kl := strL) (sh := isInt) (f := fun n : Int => Value.int .i64 n) (w.setCell ⟨gb, 3, none⟩ (.map (some w.heap.size)))
    rw [hz0] at this
    exact this
  have hx1 : w1.cell? ⟨xb, 0, none⟩ = some (.pointer (some ⟨gb, 0, none⟩)) := ((hC1.cellAt 0 hxl (by simpa using hne)).1).trans hx
  have hT1 : Tab w1 := ht.chg hC1 (by simpa using tab_ne h ht)
  have hs1 : w1.heap.size = w.heap.size + 1 := by rw [hw1]; simp [World.setCell]
  have kb := below_alloc w (.map #[] 0)
  have k3 := (kb.cell (p := ⟨gb, 3, none⟩) hgl).trans c3
  have l3 := (kb.frozen (p := ⟨gb, 3, none⟩) hgl).trans f3
  have kx := (kb.cell (p := ⟨xb, 0, none⟩) hxl).trans hx
  clear kb hz0
  have HA1 := hide hA1; have HC1 := hide hC1; have HM1 := hide hmap1; have HT1 := hide hT1; have HX1 := hide hx1; have HS1 := hide hs1
  have HW1 := hide hw1
  clear h ht hb0 hA1 hC1 hmap1 hT1 hs1 fz
  go_enter Tryd.func27, Tryd.ntmps27
  go_upto_region 1 with fail
  rw [← HW1.out]
  clear k3 l3 kx hw1 c3 f3 hx
  go_wp2_with (go_at_call 10; refine (ga_Names _ _ HT1.out).mono ?_; rintro e w' ⟨rfl, rfl⟩)
  obtain ⟨w2, hw2⟩ : ∃ w2, w2 = w1.alloc (.cells (gaNames.map strV).toArray 9) := ⟨_, rfl⟩
  rw [← hw2]
  have hnb := heap_alloc_at w1 (.cells (gaNames.map strV).toArray 9)
  have hb2 := below_alloc w1 (.cells (gaNames.map strV).toArray 9)
  rw [← hw2] at hnb hb2
  have hs2 : w2.heap.size = w.heap.size + 2 := by rw [hw2]; simp; have := HS1.out; omega
  obtain ⟨q, hq⟩ : ∃ q, q = w1.heap.size := ⟨_, rfl⟩
  have hq2 : q = w.heap.size + 1 := by rw [hq, HS1.out]
  rw [← hq] at hnb ⊢
  have hst : Hid (IntMap w2 w.heap.size (gE 0) ∧ GAt w2 gb d 1 (.map (some w.heap.size)) N ∧ w2.heap[q]? = some (.cells (gaNames.map strV).toArray 9 (0, 0)) ∧ w2.cell? ⟨xb, 0, none⟩ = some (.pointer (some ⟨gb, 0, none⟩)) ∧ Chg [gb] [gb, w.heap.size] w w2 ∧ w2.heap.size = w.heap.size + 2) := hide ⟨HM1.out.low hb2, HA1.out.low hb2, hnb, (hb2.cell (p := ⟨xb, 0, none⟩) (show xb < w1.heap.size by have := HS1.out; omega)).trans HX1.out,
    by
      have h1 := HC1.out.trans (Chg.of_below hb2)
      exact ⟨h1.os, h1.tape, h1.output, h1.size, h1.block, fun k hk => by
        simp only [List.mem_cons, List.not_mem_nil, or_false] at hk ⊢
        rcases hk with rfl | rfl
        · exact .inl rfl
        · exact .inr (Nat.le_refl _)⟩, hs2⟩
  have hn11 : gaNames.length = 11 := rfl
  have hlen : Hid (∀ i : Nat, i < 11 → (gaNames.getD i []).length ≤ maxLen) := hide fun i hi => by
    have hall : gaNames.all (fun b => decide (b.length ≤ 20)) = true := by decide
    have hm : gaNames.getD i [] ∈ gaNames := by
      rw [List.getD_eq_getElem?_getD, List.getElem?_eq_getElem (by omega)]
      exact List.getElem_mem _
    have := List.all_eq_true.1 hall _ hm
    simp only [decide_eq_true_eq] at this
    unfold maxLen
    omega
  have HQ2 := hide hq2
  clear hw2 hnb hb2 hs2 hq hq2 HM1 HA1 HC1 HT1 HX1
  go_loopw [1, 2, 10] (fun _ _ iv wr => ∃ i : Nat, iv = .int .i64 i ∧ i ≤ 11 ∧ Hid (IntMap wr w.heap.size (gE i) ∧ GAt wr gb d 1 (.map (some w.heap.size)) N ∧ wr.heap[q]? = some (.cells (gaNames.map strV).toArray 9 (0, 0)) ∧ wr.cell? ⟨xb, 0, none⟩ = some (.pointer (some ⟨gb, 0, none⟩)) ∧ Chg [gb] [gb, w.heap.size] w wr ∧ wr.heap.size = w.heap.size + 2)) (fun _ _ iv _ => match iv with | .int _ j => 11 - j.toNat | _ => 0)
  case atStart => exact ⟨0, rfl, by omega, hst⟩
  case round =>
    obtain ⟨i, rfl, hi, hr⟩ := hrel
    clear hst
    by_cases hin : i < 11
    · have i0 : (i : Int) < 11 := by omega
      obtain ⟨nm, hnm⟩ : ∃ nm, nm = gaNames.getD i [] := ⟨_, rfl⟩
      obtain ⟨r1, r2, r3, r4, r5, r6⟩ := hr.out
      obtain ⟨_, _, c3, fz, hgl, _⟩ := r2.facts
      have hc : wr.cell? ⟨q, i, none⟩ = some (.string ⟨nm.toArray⟩) := by
        simp only [World.cell?, r3]
        rw [hnm, List.getD_eq_getElem?_getD]
        have : gaNames[i]? = some (gaNames[i]'(by omega)) := List.getElem?_eq_getElem (by omega)
        simp [this, strV]
      have hnl : nm.length ≤ maxLen := by rw [hnm]; exact hlen.out i hin
      have hel : (gE i).length < maxLen := by have := gE_len i; unfold maxLen; omega
      have hwi : IntKind.i64.wrap ((i : Int) + 1) = (i : Int) + 1 := wrapI (by omega) (by omega)
      have hm := hide r1
      have hput : Hid (∀ w', IntMap w' w.heap.size (mput strL nm ((i : Int) + 1) (gE i)) → wr.grownBy w' (some w.heap.size) → w'.heap.size = wr.heap.size → IntMap w' w.heap.size (gE (i + 1)) ∧ GAt w' gb d 1 (.map (some w.heap.size)) N ∧ w'.heap[q]? = some (.cells (gaNames.map strV).toArray 9 (0, 0)) ∧ w'.cell? ⟨xb, 0, none⟩ = some (.pointer (some ⟨gb, 0, none⟩)) ∧ Chg [gb] [gb, w.heap.size] w w' ∧ w'.heap.size = w.heap.size + 2) := hide fun w' h1 h2 h3 => by
        have hgw : gb < w.heap.size := hgl0.out
        have hq2 := HQ2.out
        have hx : w'.heap[xb]? = wr.heap[xb]? := h2.block xb (by omega) fun e => by simp only [Option.some.injEq] at e; omega
        refine ⟨by rw [gE, ← hnm, show ((i + 1 : Nat) : Int) = (i : Int) + 1 by omega]; exact h1, r2.same (h2.block gb hgl fun e => by simp only [Option.some.injEq] at e; omega), (h2.block q (by omega) fun e => by simp only [Option.some.injEq] at e; omega).trans r3, (World.cell?_of_block (w := wr) (a := ⟨xb, 0, none⟩) hx).trans r4, r5.trans ⟨h2.os, h2.tape, h2.output, h2.size, fun k hk hn => h2.block k hk fun e => hn (by simp only [Option.some.injEq] at e; simp [e]), fun k hk => .inl hk⟩, by omega⟩
      clear hr r1 r2 r3 r5 r6 hnm fz hgl
      go_wp2_with (at_mapUpdate; refine wpList_mput keysGa rfl _ _ _ 52 rfl 3 Tryd.underlying52 rfl hm.out hel nm rfl hnl ((i : Int) + 1) rfl rfl ?_; intro w' hm' hg' hs'; have HP := hide (hput.out w' hm' hg' hs'); clear hm' hg' hs' c3 hc r4)
      exact ⟨⟨i + 1, by simp, hin, HP⟩, by show 11 - ((i : Int) + 1).toNat < 11 - ((i : Nat) : Int).toNat; omega⟩
    · obtain rfl : i = 11 := by omega
      have hend := hr.out
      have HE := hide hend
      clear hr hend
      go_wp2
      go_end0
      obtain ⟨r1, r2, r3, r4, r5, r6⟩ := HE.out
      exact ⟨rfl, _, r2, r1, Nat.le_refl _, r5⟩
end Go.Proofs.YtgolknkapcelpaaDoor
