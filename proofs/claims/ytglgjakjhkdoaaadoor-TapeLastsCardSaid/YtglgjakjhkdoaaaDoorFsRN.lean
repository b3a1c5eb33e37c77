/-
  What came in: lists of bools, what a crash keeps; a Loss in a box.
-/
import Derived.Test.YtglgjakjhkdoaaaDoorFsJ
import Derived.Test.YtglgjakjhkdoaaaDoorOwn
import Derived.Test.YtglgjakjhkdoaaaDoorLaw
namespace Go.Proofs.YtglgjakjhkdoaaaDoor
open Go.RowKit Go.ChangeShapes Go.WideShapes Go.ChangeAt Go.Deep
set_option linter.unusedVariables false
set_option linter.unusedSimpArgs false

theorem open_bools {H : Type} {enc : TypeId × Value → H} {W : World} {fuel : Nat} {cs : List Value} {x : DataW H × List MemPlace} (h : DataW.trod enc Tryd.prog W 0 (fun _ => true) true fuel 25 cs = some x) :
    ∃ (a : Option Addr) (n c : Nat) (K : List Bool), cs = [.slice a n c] ∧ RdK W (.slice a n c) K ∧ n = K.length := by
  rcases open_slice Tryd.underlying25 h with ⟨rfl, _⟩ | ⟨a, len, cap, m, n, D, Pl, rfl, _, hl, hm, hmm, _, hi⟩
  · exact ⟨_, _, _, [], rfl, ⟨by simp, .inl ⟨rfl, rfl⟩⟩, rfl⟩
  simp only [if_true] at hmm
  have hC : Tryd.prog.cellsOf 4 = 1 := by kernel_rfl
  have key : ∀ i, i < len → ∃ y : Bool, W.cell? (a.add i) = some (.bool y) := by
    intro i hi'
    obtain ⟨cs', hc, ht⟩ := hi i (by omega)
    rw [hC, Nat.mul_one] at hc
    obtain ⟨_, hcl, hat⟩ := World.cells?_some hc
    obtain ⟨z, rfl, _⟩ := DataW.trod_bool Tryd.underlying4 ht
    have h0 := hat 0 (by omega)
    exact ⟨z, by simpa [Addr.add] using h0⟩
  obtain ⟨b, hbl, hb⟩ := list_of_key len key
  subst hbl
  refine ⟨_, _, _, b, rfl, ⟨by simp, .inr ⟨a, cap, rfl, fun j u hu => ?_⟩⟩, rfl⟩
  simp only [List.getElem?_map, Option.map_eq_some_iff] at hu
  obtain ⟨y, hy, rfl⟩ := hu
  obtain ⟨hj, rfl⟩ := List.getElem?_eq_some_iff.1 hy
  exact hb j hj

set_option maxRecDepth 100000 in
theorem open_loss {H : Type} {enc : TypeId × Value → H} {W : World} {base : Nat} {v : Value} {d : DataW H} {p : List MemPlace} (hv : Value.okWide Tryd.prog W .any base 27 v) (h : DataW.Trod enc Tryd.prog W 0 (fun _ => true) true 27 v d p) :
    ∃ (a : Option Addr) (n c : Nat) (K : List Bool) (t : Int), v = .agg #[.slice a n c, .int .i64 t] ∧ RdK W (.slice a n c) K ∧ n = K.length ∧ -9223372036854775808 ≤ t ∧ t ≤ 9223372036854775807 := by
  obtain ⟨cs, rfl, hsz⟩ := okWide_struct Tryd.underlying27 hv
  obtain ⟨l⟩ := cs
  have k25 : Tryd.prog.cellsOf 27 = 2 := by kernel_rfl
  have k23 : Tryd.prog.cellsOf 25 = 1 := by kernel_rfl
  have k3 : Tryd.prog.cellsOf 3 = 1 := by kernel_rfl
  match l, hsz.trans k25 with
  | [x0, x1], _ =>
    obtain ⟨fuel, hf⟩ := h
    obtain ⟨xs, n, _, _, _, hlen, hg⟩ := DataW.trod_struct Tryd.underlying27 hf
    match xs, hlen with
    | [y0, y1], _ =>
      obtain ⟨a, m, c, K, e0, hr, hm⟩ := open_bools (by simpa [Value.cells, k23] using hg 0 _ rfl : DataW.trod enc Tryd.prog W 0 (fun _ => true) true n 25 [x0] = some y0)
      obtain ⟨z, e1, _, w1⟩ := DataW.trod_int Tryd.underlying3 (by simpa [Value.cells, k3] using hg 1 _ rfl : DataW.trod enc Tryd.prog W 0 (fun _ => true) true n 3 [x1] = some y1)
      simp only [List.cons.injEq, and_true] at e0 e1
      subst e0 e1
      exact ⟨a, m, c, K, z, rfl, hr, hm, (wf_i64 w1).1, (wf_i64 w1).2⟩
/-- what a Loss in a box is -/
theorem loss_box {W : World} {a2 : Option Addr} {n2 c2 : Nat} {t2 : Int} : ∀ WB, WB = W.alloc (.cells #[.slice a2 n2 c2, .int .i64 t2] 27) → Below W.heap.size W WB ∧ WB.heap.size = W.heap.size + 1 ∧ ∀ w', Below WB.heap.size WB w' → w'.cell? ⟨W.heap.size, 0, none⟩ = some (.slice a2 n2 c2) ∧ w'.cell? ⟨W.heap.size, 1, none⟩ = some (.int .i64 t2) := by
  rintro WB rfl
  refine ⟨below_alloc _ _, by simp, fun w' hw => ?_⟩
  have g1 := (hw.block W.heap.size (by simp)).trans (heap_alloc_at W _)
  simp [World.cell?, g1]
theorem RdK.lowK {W : World} {a2 : Option Addr} {n2 c2 : Nat} {K2 : List Bool} (h : RdK W (.slice a2 n2 c2) K2) (hn : n2 = K2.length) : 0 < n2 → ∀ k, (Value.slice a2 n2 c2).ownBlock = some k → k < W.heap.size := fun hp k hk => by
  obtain ⟨bb, off, cc, he, _, hb⟩ := RdK.at h (k := 0) (by omega)
  simp only [Value.slice.injEq] at he
  obtain ⟨rfl, -⟩ := he
  simp only [Value.ownBlock, Option.some.injEq] at hk
  omega
end Go.Proofs.YtglgjakjhkdoaaaDoor
