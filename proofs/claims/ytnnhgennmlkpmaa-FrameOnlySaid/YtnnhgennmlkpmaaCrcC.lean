/-
  The laws of check sums: the example; lists of lists that are laid for a call.
-/
import Derived.Test.YtnnhgennmlkpmaaCrcB
import Derived.Lib.SlBytesConst
namespace Go.Proofs.Ytnnhgennmlkpmaa
open Go.RowKit
set_option linter.unusedVariables false
set_option linter.unusedSimpArgs false

theorem info_u8' : (Try.prog.info? 5).map (fun i => (i.zero, i.size, i.bytes)) = some (some (.int .u8 0), 1, 1) := by kernel_rfl

/-- a row of slices of bytes that was laid -/
theorem rdbs_row {w : World} {n : Nat} {vs : List Value} {ls : List (List UInt8)} {e : TypeId} {fr : Nat × Nat} (hrow : w.heap[n]? = some (.cells vs.toArray e fr)) (hl : vs.length = ls.length) (hp : 0 < ls.length)
    (h : ∀ (i : Nat) (v : Value) (l : List UInt8), vs[i]? = some v → ls[i]? = some l → RdB w v l) (c : Nat) : RdBs w (.slice (some ⟨n, 0, none⟩) ls.length c) ls := by
  refine ⟨vs, ⟨by simpa using hl, .inr ⟨⟨n, 0, none⟩, c, rfl, fun j u hu => ?_⟩⟩, hl, h⟩
  have hadd : (⟨n, 0, none⟩ : Addr).add j = ⟨n, j, none⟩ := by unfold Addr.add; split <;> simp_all
  rw [hadd, cell_of_row w n j vs.toArray e fr hrow]
  simpa using hu
theorem rdbs_one {w : World} {n : Nat} {v : Value} {l : List UInt8} {e : TypeId} {fr : Nat × Nat} (hrow : w.heap[n]? = some (.cells #[v] e fr)) (h : RdB w v l) (c : Nat) : RdBs w (.slice (some ⟨n, 0, none⟩) 1 c) [l] :=
  rdbs_row (vs := [v]) (ls := [l]) hrow rfl (by simp) (fun i v' l' h1 h2 => by
    cases i with
    | zero => simp at h1 h2; subst h1; subst h2; exact h
    | succ i => simp at h1) c
/-- bytes that were laid -/
theorem rdb_row {w : World} {n : Nat} {l : List UInt8} {e : TypeId} {fr : Nat × Nat} (hrow : w.heap[n]? = some (.cells (bcells l).toArray e fr)) (hp : 0 < l.length) (c : Nat) : RdB w (.slice (some ⟨n, 0, none⟩) l.length c) l := by
  refine ⟨by simp [bcells], .inr ⟨⟨n, 0, none⟩, c, rfl, fun j u hu => ?_⟩⟩
  have hadd : (⟨n, 0, none⟩ : Addr).add j = ⟨n, j, none⟩ := by unfold Addr.add; split <;> simp_all
  rw [hadd, cell_of_row w n j _ e fr hrow]
  simpa using hu
theorem heap_alloc_at (w : World) (o : Obj) : (w.alloc o).heap[w.heap.size]? = some o := Array.getElem?_push_size
theorem heap_alloc_old (w : World) (o : Obj) {k : Nat} (h : k < w.heap.size) : (w.alloc o).heap[k]? = w.heap[k]? := Below.heap_alloc w o k h

theorem crc_new_at (w : World) : Calls Try.prog 25 #[] w fun e w' => e = .returned (.pointer (some ⟨w.heap.size, 0, none⟩)) ∧ Tab w' w.heap.size false ∧ Below w.heap.size w w' ∧ w.heap.size < w'.heap.size := by
  refine (crc_new w).mono ?_
  rintro e w' ⟨rfl, rfl⟩
  exact ⟨rfl, TabAt.made w, (Below.refl _ _).alloc (Nat.le_refl _) _, by simp⟩

theorem Tab.alloc {w : World} {tb : Nat} {f : Bool} (h : Tab w tb f) (o : Obj) : Tab (w.alloc o) tb f := h.low ((Below.refl _ _).alloc (Nat.le_refl _) _)
theorem Tab.lt {w : World} {tb : Nat} {f : Bool} (h : Tab w tb f) : tb < w.heap.size := (TabAt.heads h).2.2.2.2
theorem heap_alloc_eq {w : World} {n : Nat} (o : Obj) (h : n = w.heap.size) : (w.alloc o).heap[n]? = some o := by rw [h]; exact heap_alloc_at w o
/-- Sum of lists that were laid for the call -/
theorem crc_sum_row (tb : Nat) (f : Bool) (vs : List Value) (ls : List (List UInt8)) (n : Nat) (w0 : World) (hT : Tab w0 tb f) (hrow : w0.heap[n]? = some (.cells vs.toArray 26 (0, 0))) (hl : vs.length = ls.length) (hp : 0 < ls.length) (hn : n ≠ tb)
    (hv : ∀ w', Chg [tb] [tb] w0 w' → ∀ (i : Nat) (v : Value) (l : List UInt8), vs[i]? = some v → ls[i]? = some l → RdB w' v l) (hls : ∀ l ∈ ls, l.length ≤ 9223372036854775807) (hll : ls.length ≤ 9223372036854775807) :
    Calls Try.prog 26 #[.pointer (some ⟨tb, 0, none⟩), .slice (some ⟨n, 0, none⟩) ls.length ls.length] w0 fun e w' => e = .returned (.int .u32 (crcSum ls.flatten : Nat)) ∧ Tab w' tb true ∧ Chg [tb] [tb] w0 w' :=
  crc_sum tb f _ ls w0 hT (fun w' hc => rdbs_row (w := w') (by rw [hc.block n (Array.getElem?_eq_some_iff.1 hrow).1 (by simpa using hn)]; exact hrow) hl hp (hv w' hc) _) hll hls
theorem crc_sum_one (tb : Nat) (f : Bool) (v : Value) (l : List UInt8) (n : Nat) (w0 : World) (hT : Tab w0 tb f) (hrow : w0.heap[n]? = some (.cells #[v] 26 (0, 0))) (hn : n ≠ tb)
    (hv : ∀ w', Chg [tb] [tb] w0 w' → RdB w' v l) (hl : l.length ≤ 9223372036854775807) :
    Calls Try.prog 26 #[.pointer (some ⟨tb, 0, none⟩), .slice (some ⟨n, 0, none⟩) 1 1] w0 fun e w' => e = .returned (.int .u32 (crcSum l : Nat)) ∧ Tab w' tb true ∧ Chg [tb] [tb] w0 w' := by
  have h := crc_sum_row tb f [v] [l] n w0 hT hrow rfl (by simp) hn (fun w' hc i v' l' h1 h2 => by
    cases i with
    | zero => simp at h1 h2; subst h1; subst h2; exact hv w' hc
    | succ i => simp at h1) (by simpa using hl) (by simp)
  simpa using h
theorem crc_sum_nil (tb : Nat) (f : Bool) (w0 : World) (hT : Tab w0 tb f) :
    Calls Try.prog 26 #[.pointer (some ⟨tb, 0, none⟩), .slice none 0 0] w0 fun e w' => e = .returned (.int .u32 0) ∧ Tab w' tb true ∧ Chg [tb] [tb] w0 w' :=
  crc_sum tb f _ [] w0 hT (fun w' _ => RdBs.nil w') (by simp) (by simp)

end Go.Proofs.Ytnnhgennmlkpmaa
