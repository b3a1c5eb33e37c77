/-
  The laws of check sums: the example; lists of lists that are laid for a call.
-/
import Derived.Test.YtiocakcanabjjaaCrcB
import Derived.Lib.SlBytesConst
namespace Go.Proofs.Ytiocakcanabjjaa
open Go.RowKit
set_option linter.unusedVariables false
set_option linter.unusedSimpArgs false

theorem info_u8' : (Try.prog.info? 5).map (fun i => (i.zero, i.size, i.bytes)) = some (some (.int .u8 0), 1, 1) := by kernel_rfl

/-- a row of slices of bytes that was laid -/
theorem rdbs_row {w : World} {n : Nat} {vs : List Value} {ls : List (List UInt8)} {e : TypeId} {fr : Nat × Nat} (hrow : w.heap[n]? = some (.cells vs.toArray e fr)) (hl : vs.length = ls.length) (hp : 0 < ls.length)
    (h : ∀ (i : Nat) (v : Value) (l : List UInt8), vs[i]? = some v → ls[i]? = some l → RdB w v l) (c : Nat) : RdBs w (.slice (some ⟨n, 0, none⟩) ls.length c) ls := by
  refine ⟨vs, ⟨by simpa using hl, .inr ⟨⟨n, 0, none⟩, c, rfl, fun j u hu => ?_⟩⟩, hl, h⟩
  have hadd : (⟨n, 0, none⟩ : Addr).add j = ⟨n, j, none⟩ := by unfold Addr.add; split <;> simp_all
  rw [hadd, cell_of_row w n j vs.toArray e fr hrow]
  simpa using hu
theorem rdbs_one {w : World} {n : Nat} {v : Value} {l : List UInt8} {e : TypeId} {fr : Nat × Nat} (hrow : w.heap[n]? = some (.cells #[v] e fr)) (h : RdB w v l) (c : Nat) : RdBs w (.slice (some ⟨n, 0, none⟩) 1 c) [l] :=
  rdbs_row (vs := [v]) (ls := [l]) hrow rfl (by simp) (fun i v' l' h1 h2 => by
    cases i with
    | zero => simp at h1 h2; subst h1; subst h2; exact h
    | succ i => simp at h1) c
/-- bytes that were laid -/
theorem rdb_row {w : World} {n : Nat} {l : List UInt8} {e : TypeId} {fr : Nat × Nat} (hrow : w.heap[n]? = some (.cells (bcells l).toArray e fr)) (hp : 0 < l.length) (c : Nat) : RdB w (.slice (some ⟨n, 0, none⟩) l.length c) l := by
  refine ⟨by simp [bcells], .inr ⟨⟨n, 0, none⟩, c, rfl, fun j u hu => ?_⟩⟩
  have hadd : (⟨n, 0, none⟩ : Addr).add j = ⟨n, j, none⟩ := by unfold Addr.add; split <;> simp_all
  rw [hadd, cell_of_row w n j _ e fr hrow]
  simpa using hu
theorem heap_alloc_at (w : World) (o : Obj) : (w.alloc o).heap[w.heap.size]? = some o := Array.getElem?_push_size
theorem heap_alloc_old (w : World) (o : Obj) {k : Nat} (h : k < w.heap.size) : (w.alloc o).heap[k]? = w.heap[k]? := Below.heap_alloc w o k h

theorem crc_new_at (w : World) : Calls Try.prog 13 #[] w fun e w' => e = .returned (.pointer (some ⟨w.heap.size, 0, none⟩)) ∧ Tab w' w.heap.size false ∧ Below w.heap.size w w' ∧ w.heap.size < w'.heap.size := by
  refine (crc_new w).mono ?_
  rintro e w' ⟨rfl, rfl⟩
  exact ⟨rfl, TabAt.made w, (Below.refl _ _).alloc (Nat.le_refl _) _, by simp⟩

theorem Tab.alloc {w : World} {tb : Nat} {f : Bool} (h : Tab w tb f) (o : Obj) : Tab (w.alloc o) tb f := h.low ((Below.refl _ _).alloc (Nat.le_refl _) _)
theorem Tab.lt {w : World} {tb : Nat} {f : Bool} (h : Tab w tb f) : tb < w.heap.size := (TabAt.heads h).2.2.2.2
theorem heap_alloc_eq {w : World} {n : Nat} (o : Obj) (h : n = w.heap.size) : (w.alloc o).heap[n]? = some o := by rw [h]; exact heap_alloc_at w o
theorem crc_made_tab (tb : Nat) (f : Bool) (w : World) (h : Tab w tb f) :
    Calls Try.prog 16 #[.pointer (some ⟨tb, 0, none⟩)] w fun e w' => e = .returned (.int .i64 (if f then 1 else 0)) ∧ w = w' :=
  crc_made tb _ _ _ _ w h (by cases f <;> simp) (by cases f <;> simp)

/-- Sum of lists that were laid for the call -/
theorem crc_sum_row (tb : Nat) (f : Bool) (vs : List Value) (ls : List (List UInt8)) (n : Nat) (w0 : World) (hT : Tab w0 tb f) (hrow : w0.heap[n]? = some (.cells vs.toArray 22 (0, 0))) (hl : vs.length = ls.length) (hp : 0 < ls.length) (hn : n ≠ tb)
    (hv : ∀ w', Chg [tb] [tb] w0 w' → ∀ (i : Nat) (v : Value) (l : List UInt8), vs[i]? = some v → ls[i]? = some l → RdB w' v l) (hls : ∀ l ∈ ls, l.length ≤ 9223372036854775807) (hll : ls.length ≤ 9223372036854775807) :
    Calls Try.prog 14 #[.pointer (some ⟨tb, 0, none⟩), .slice (some ⟨n, 0, none⟩) ls.length ls.length] w0 fun e w' => e = .returned (.int .u32 (crcSum ls.flatten : Nat)) ∧ Tab w' tb true ∧ Chg [tb] [tb] w0 w' :=
  crc_sum tb f _ ls w0 hT (fun w' hc => rdbs_row (w := w') (by rw [hc.block n (Array.getElem?_eq_some_iff.1 hrow).1 (by simpa using hn)]; exact hrow) hl hp (hv w' hc) _) hll hls
theorem crc_sum_one (tb : Nat) (f : Bool) (v : Value) (l : List UInt8) (n : Nat) (w0 : World) (hT : Tab w0 tb f) (hrow : w0.heap[n]? = some (.cells #[v] 22 (0, 0))) (hn : n ≠ tb)
    (hv : ∀ w', Chg [tb] [tb] w0 w' → RdB w' v l) (hl : l.length ≤ 9223372036854775807) :
    Calls Try.prog 14 #[.pointer (some ⟨tb, 0, none⟩), .slice (some ⟨n, 0, none⟩) 1 1] w0 fun e w' => e = .returned (.int .u32 (crcSum l : Nat)) ∧ Tab w' tb true ∧ Chg [tb] [tb] w0 w' := by
  have h := crc_sum_row tb f [v] [l] n w0 hT hrow rfl (by simp) hn (fun w' hc i v' l' h1 h2 => by
    cases i with
    | zero => simp at h1 h2; subst h1; subst h2; exact hv w' hc
    | succ i => simp at h1) (by simpa using hl) (by simp)
  simpa using h
theorem crc_sum_nil (tb : Nat) (f : Bool) (w0 : World) (hT : Tab w0 tb f) :
    Calls Try.prog 14 #[.pointer (some ⟨tb, 0, none⟩), .slice none 0 0] w0 fun e w' => e = .returned (.int .u32 0) ∧ Tab w' tb true ∧ Chg [tb] [tb] w0 w' :=
  crc_sum tb f _ [] w0 hT (fun w' _ => RdBs.nil w') (by simp) (by simp)

def nine : List UInt8 := [49, 50, 51, 52, 53, 54, 55, 56, 57]
theorem nine_sum : crcSum nine = 3808858755 := by decide +kernel

set_option maxRecDepth 100000 in
set_option maxHeartbeats 1600000 in
theorem crc_known (w : World) : Calls Try.prog 12 #[] w fun e w' => e = .returned (.bool true) ∧ Below w.heap.size w w' := by
  have kc := fun (w : World) (C : Array Value) (n c : Nat) => Lib.run_convert_bytes_const (P := Try.prog) w 22 5 C n c Try.underlying22 Try.underlying5
  go_enter Try.func12, Try.ntmps12
  go_wp2_with fail
  refine (crc_new_at w).mono ?_
  rintro e w1 ⟨rfl, hT, hb1, hlt⟩
  obtain ⟨tb, htb⟩ : ∃ tb, tb = w.heap.size := ⟨_, rfl⟩
  rw [← htb] at hT hlt ⊢
  have HT := hide hT; have HB := hide hb1; have HE := hide htb
  clear hT hb1 htb
  go_wp2_with fail
  refine (crc_made_tab tb _ _ HT.out).mono ?_
  rintro e w' ⟨rfl, rfl⟩
  simp only [Bool.false_eq_true, if_false]
  go_wp2_with fail
  refine (crc_sum_one tb false _ nine _ _ ((HT.out.alloc _).alloc _) (heap_alloc_eq _ (by simp)) (by omega) (fun w' hc => ?_) (by decide)).mono ?_
  · refine rdb_row (l := nine) (e := 5) (fr := (9, 10)) ?_ (by decide) _
    rw [hc.block w1.heap.size (by simp; omega) (by simp; omega), heap_alloc_old _ _ (by simp), heap_alloc_at]
    rfl
  rintro e w2 ⟨rfl, hT2, hc2⟩
  rw [nine_sum]
  have hb2 : Below tb w w2 := by
    have h1 := HB.out
    have h3 := (hc2.below (B := tb) (by simp; omega) (by simp))
    rw [← HE.out] at h1
    exact (((h1).alloc (by omega) _).alloc (by simp; omega) _).trans h3
  have HT2 := hide hT2; have HB2 := hide hb2
  have hlt2 : tb < w2.heap.size := hT2.lt
  clear hT2 hb2 hc2 HT HB
  go_wp2_with fail
  refine (crc_made_tab tb _ _ HT2.out).mono ?_
  rintro e w' ⟨rfl, rfl⟩
  simp only [if_true]
  go_wp2_with fail
  refine (crc_sum_nil tb _ _ HT2.out).mono ?_
  rintro e w3 ⟨rfl, hT3, hc3⟩
  have HB3 := hide (HB2.out.trans (hc3.below (B := tb) (by omega) (by simp)))
  clear hc3 hT3
  go_wp2
  go_ret
  exact ⟨rfl, by rw [← HE.out]; exact HB3.out⟩
end Go.Proofs.Ytiocakcanabjjaa
