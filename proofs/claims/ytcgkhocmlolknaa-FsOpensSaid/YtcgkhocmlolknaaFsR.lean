/-
  What came in: lists of bools, what a crash keeps, lists of lists of bytes.
-/
import Derived.Test.YtcgkhocmlolknaaFsP
namespace Go.Proofs.Ytcgkhocmlolknaa
open Go.RowKit Go.ChangeShapes Go.WideShapes Go.ChangeAt Go.Deep
set_option linter.unusedVariables false
set_option linter.unusedSimpArgs false

theorem open_bools {H : Type} {enc : TypeId × Value → H} {W : World} {fuel : Nat} {cs : List Value} {x : DataW H × List MemPlace} (h : DataW.trod enc Try.prog W 0 (fun _ => true) true fuel 28 cs = some x) :
    ∃ (a : Option Addr) (n c : Nat) (K : List Bool), cs = [.slice a n c] ∧ RdK W (.slice a n c) K ∧ n = K.length := by
  rcases open_slice Try.underlying28 h with ⟨rfl, _⟩ | ⟨a, len, cap, m, n, D, Pl, rfl, _, hl, hm, hmm, _, hi⟩
  · exact ⟨_, _, _, [], rfl, ⟨by simp, .inl ⟨rfl, rfl⟩⟩, rfl⟩
  simp only [if_true] at hmm
  have hC : Try.prog.cellsOf 4 = 1 := by kernel_rfl
  have key : ∀ i, i < len → ∃ y : Bool, W.cell? (a.add i) = some (.bool y) := by
    intro i hi'
    obtain ⟨cs', hc, ht⟩ := hi i (by omega)
    rw [hC, Nat.mul_one] at hc
    obtain ⟨_, hcl, hat⟩ := World.cells?_some hc
    obtain ⟨z, rfl, _⟩ := DataW.trod_bool Try.underlying4 ht
    have h0 := hat 0 (by omega)
    exact ⟨z, by simpa [Addr.add] using h0⟩
  obtain ⟨b, hbl, hb⟩ := list_of_key len key
  subst hbl
  refine ⟨_, _, _, b, rfl, ⟨by simp, .inr ⟨a, cap, rfl, fun j u hu => ?_⟩⟩, rfl⟩
  simp only [List.getElem?_map, Option.map_eq_some_iff] at hu
  obtain ⟨y, hy, rfl⟩ := hu
  obtain ⟨hj, rfl⟩ := List.getElem?_eq_some_iff.1 hy
  exact hb j hj

set_option maxRecDepth 100000 in
theorem open_loss {H : Type} {enc : TypeId × Value → H} {W : World} {base : Nat} {v : Value} {d : DataW H} {p : List MemPlace} (hv : Value.okWide Try.prog W .any base 30 v) (h : DataW.Trod enc Try.prog W 0 (fun _ => true) true 30 v d p) :
    ∃ (a : Option Addr) (n c : Nat) (K : List Bool) (t : Int), v = .agg #[.slice a n c, .int .i64 t] ∧ RdK W (.slice a n c) K ∧ n = K.length ∧ -9223372036854775808 ≤ t ∧ t ≤ 9223372036854775807 := by
  obtain ⟨cs, rfl, hsz⟩ := okWide_struct Try.underlying30 hv
  obtain ⟨l⟩ := cs
  have k25 : Try.prog.cellsOf 30 = 2 := by kernel_rfl
  have k23 : Try.prog.cellsOf 28 = 1 := by kernel_rfl
  have k3 : Try.prog.cellsOf 3 = 1 := by kernel_rfl
  match l, hsz.trans k25 with
  | [x0, x1], _ =>
    obtain ⟨fuel, hf⟩ := h
    obtain ⟨xs, n, _, _, _, hlen, hg⟩ := DataW.trod_struct Try.underlying30 hf
    match xs, hlen with
    | [y0, y1], _ =>
      obtain ⟨a, m, c, K, e0, hr, hm⟩ := open_bools (by simpa [Value.cells, k23] using hg 0 _ rfl : DataW.trod enc Try.prog W 0 (fun _ => true) true n 28 [x0] = some y0)
      obtain ⟨z, e1, _, w1⟩ := DataW.trod_int Try.underlying3 (by simpa [Value.cells, k3] using hg 1 _ rfl : DataW.trod enc Try.prog W 0 (fun _ => true) true n 3 [x1] = some y1)
      simp only [List.cons.injEq, and_true] at e0 e1
      subst e0 e1
      exact ⟨a, m, c, K, z, rfl, hr, hm, (wf_i64 w1).1, (wf_i64 w1).2⟩

theorem open_bytess {H : Type} {enc : TypeId × Value → H} {W : World} {fuel : Nat} {cs : List Value} {x : DataW H × List MemPlace} (h : DataW.trod enc Try.prog W 0 (fun _ => true) true fuel 87 cs = some x) :
    ∃ (v : Value) (ls : List Bs), cs = [v] ∧ RdBs W v ls := by
  rcases open_slice Try.underlying87 h with ⟨rfl, _⟩ | ⟨a, len, cap, m, n, D, Pl, rfl, _, hl, hm, hmm, _, hi⟩
  · exact ⟨_, [], rfl, RdBs.nil W⟩
  simp only [if_true] at hmm
  have hC : Try.prog.cellsOf 27 = 1 := by kernel_rfl
  have key : ∀ i, i < len → ∃ y : Value × Bs, W.cell? (a.add i) = some y.1 ∧ RdB W y.1 y.2 := by
    intro i hi'
    obtain ⟨cs', hc, ht⟩ := hi i (by omega)
    rw [hC, Nat.mul_one] at hc
    obtain ⟨_, hcl, hat⟩ := World.cells?_some hc
    obtain ⟨v, b, rfl, hr, _⟩ := open_bytes ht
    have h0 := hat 0 (by omega)
    exact ⟨(v, b), by simpa [Addr.add] using h0, hr⟩
  obtain ⟨L, hLl, hL⟩ := list_of_key len key
  subst hLl
  refine ⟨_, L.map (·.2), rfl, L.map (·.1), ⟨by simp, .inr ⟨a, cap, by simp, fun j u hu => ?_⟩⟩, by simp, fun i v l hv hl => ?_⟩
  · simp only [List.getElem?_map, Option.map_eq_some_iff] at hu
    obtain ⟨y, hy, rfl⟩ := hu
    obtain ⟨hj, rfl⟩ := List.getElem?_eq_some_iff.1 hy
    exact (hL j hj).1
  · simp only [List.getElem?_map, Option.map_eq_some_iff] at hv hl
    obtain ⟨y, hy, rfl⟩ := hv
    obtain ⟨z, hz, rfl⟩ := hl
    rw [hy] at hz
    simp only [Option.some.injEq] at hz
    subst hz
    obtain ⟨hj, rfl⟩ := List.getElem?_eq_some_iff.1 hy
    exact (hL i hj).2
end Go.Proofs.Ytcgkhocmlolknaa
