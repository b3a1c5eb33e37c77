/-
  A frame that came in as an argument: its cells, its bits.
-/
import Derived.Test.YtnnhgennmlkpmaaFrC
import Derived.Test.YtnnhgennmlkpmaaLaw
namespace Go.Proofs.Ytnnhgennmlkpmaa
open Go.RowKit Go.ChangeShapes Go.WideShapes Go.ChangeAt Go.Deep
set_option linter.unusedVariables false
set_option linter.unusedSimpArgs false

/-- bytes that came in, with their capacity -/
theorem open_bytesC {H : Type} {enc : TypeId × Value → H} {W : World} {fuel : Nat} {cs : List Value} {x : DataW H × List MemPlace} (h : DataW.trod enc Try.prog W 0 (fun _ => true) true fuel 26 cs = some x) :
    ∃ (a : Option Addr) (c : Nat) (b : List UInt8), cs = [.slice a b.length c] ∧ RdB W (.slice a b.length c) b ∧ b.length ≤ c ∧ c ≤ 9223372036854775807 := by
  obtain ⟨v, b, hcs, hr, hl⟩ := open_bytes h
  obtain ⟨a, c, rfl⟩ := Rd.head hr
  refine ⟨a, c, b, hcs, hr, ?_⟩
  rcases open_slice Try.underlying26 h with ⟨h0, _⟩ | ⟨a', len, cap, m, n, D, Pl, h0, _, h1, h2, _⟩
  · rw [hcs] at h0
    simp only [List.cons.injEq, Value.slice.injEq, and_true] at h0
    omega
  · rw [hcs] at h0
    simp only [List.cons.injEq, Value.slice.injEq, and_true] at h0
    unfold maxLen at h2
    omega

set_option maxRecDepth 100000 in
set_option maxHeartbeats 800000 in
theorem open_frame {H : Type} {enc : TypeId × Value → H} {W : World} {base : Nat} {v : Value} {d : DataW H} {p : List MemPlace} (hv : Value.okWide Try.prog W .any base 30 v) (h : DataW.Trod enc Try.prog W 0 (fun _ => true) true 30 v d p) :
    ∃ (f : Fr) (a : Option Addr) (c : Nat), v = frV f (.slice a f.b.length c) ∧ f.Ok ∧ RdB W (.slice a f.b.length c) f.b ∧ f.b.length ≤ c ∧ c ≤ 9223372036854775807 := by
  obtain ⟨cs, rfl, hsz⟩ := okWide_struct Try.underlying30 hv
  obtain ⟨l⟩ := cs
  have k30 : Try.prog.cellsOf 30 = 11 := by kernel_rfl
  have k5 : Try.prog.cellsOf 5 = 1 := by kernel_rfl
  have k22 : Try.prog.cellsOf 22 = 1 := by kernel_rfl
  have k24 : Try.prog.cellsOf 24 = 3 := by kernel_rfl
  have k4 : Try.prog.cellsOf 4 = 1 := by kernel_rfl
  have k25 : Try.prog.cellsOf 25 = 1 := by kernel_rfl
  have k28 : Try.prog.cellsOf 28 = 2 := by kernel_rfl
  have k26 : Try.prog.cellsOf 26 = 1 := by kernel_rfl
  have k3 : Try.prog.cellsOf 3 = 1 := by kernel_rfl
  match l, hsz.trans k30 with
  | [x0, x1, x2, x3, x4, x5, x6, x7, x8, x9, x10], _ =>
    obtain ⟨fuel, hf⟩ := h
    obtain ⟨xs, n, _, _, _, hlen, hg⟩ := DataW.trod_struct Try.underlying30 hf
    match xs, hlen with
    | [y0, y1, y2, y3, y4, y5, y6, y7], _ =>
      obtain ⟨z0, e0, _, w0⟩ := DataW.trod_int Try.underlying5 (by simpa [Value.cells, k5] using hg 0 _ rfl : DataW.trod enc Try.prog W 0 (fun _ => true) true n 5 [x0] = some y0)
      obtain ⟨z1, e1, _, w1⟩ := DataW.trod_int Try.underlying22 (by simpa [Value.cells, k22] using hg 1 _ rfl : DataW.trod enc Try.prog W 0 (fun _ => true) true n 22 [x1] = some y1)
      obtain ⟨z2, e2, _, w2⟩ := DataW.trod_int Try.underlying22 (by simpa [Value.cells, k22] using hg 2 _ rfl : DataW.trod enc Try.prog W 0 (fun _ => true) true n 22 [x2] = some y2)
      have p3 : DataW.trod enc Try.prog W 0 (fun _ => true) true n 24 [x3, x4, x5] = some y3 := by simpa [Value.cells, k24] using hg 3 _ rfl
      obtain ⟨z6, e6, _, w6⟩ := DataW.trod_int Try.underlying22 (by simpa [Value.cells, k22] using hg 4 _ rfl : DataW.trod enc Try.prog W 0 (fun _ => true) true n 22 [x6] = some y4)
      obtain ⟨z7, e7, _⟩ := DataW.trod_bool Try.underlying4 (by simpa [Value.cells, k4] using hg 5 _ rfl : DataW.trod enc Try.prog W 0 (fun _ => true) true n 4 [x7] = some y5)
      obtain ⟨z8, e8, _, w8⟩ := DataW.trod_int Try.underlying25 (by simpa [Value.cells, k25] using hg 6 _ rfl : DataW.trod enc Try.prog W 0 (fun _ => true) true n 25 [x8] = some y6)
      have p9 : DataW.trod enc Try.prog W 0 (fun _ => true) true n 28 [x9, x10] = some y7 := by simpa [Value.cells, k28] using hg 7 _ rfl
      obtain ⟨xs, n', _, _, _, hlen, hg⟩ := DataW.trod_struct Try.underlying24 p3
      match xs, hlen with
      | [y0, y1, y2], _ =>
        obtain ⟨z3, e3, _, w3⟩ := DataW.trod_int Try.underlying22 (by simpa [k22] using hg 0 _ rfl : DataW.trod enc Try.prog W 0 (fun _ => true) true n' 22 [x3] = some y0)
        obtain ⟨z4, e4, _, w4⟩ := DataW.trod_int Try.underlying22 (by simpa [k22] using hg 1 _ rfl : DataW.trod enc Try.prog W 0 (fun _ => true) true n' 22 [x4] = some y1)
        obtain ⟨z5, e5, _, w5⟩ := DataW.trod_int Try.underlying22 (by simpa [k22] using hg 2 _ rfl : DataW.trod enc Try.prog W 0 (fun _ => true) true n' 22 [x5] = some y2)
        obtain ⟨xs, n'', _, _, _, hlen, hg⟩ := DataW.trod_struct Try.underlying28 p9
        match xs, hlen with
        | [y0, y1], _ =>
          obtain ⟨a, c, b, e9, hr, hc1, hc2⟩ := open_bytesC (by simpa [k26] using hg 0 _ rfl : DataW.trod enc Try.prog W 0 (fun _ => true) true n'' 26 [x9] = some y0)
          obtain ⟨z10, e10, _, w10⟩ := DataW.trod_int Try.underlying3 (by simpa [k3] using hg 1 _ rfl : DataW.trod enc Try.prog W 0 (fun _ => true) true n'' 3 [x10] = some y1)
          have q0 := wf_u8 w0; have q1 := wf_u32 w1; have q2 := wf_u32 w2; have q3 := wf_u32 w3; have q4 := wf_u32 w4; have q5 := wf_u32 w5; have q6 := wf_u32 w6; have q8 := wf_u64 w8; have q10 := wf_i64 w10
          simp only [List.cons.injEq, and_true] at e0 e1 e2 e3 e4 e5 e6 e7 e8 e9 e10
          subst e0 e1 e2 e3 e4 e5 e6 e7 e8 e9 e10
          obtain ⟨z0, rfl⟩ := Int.eq_ofNat_of_zero_le q0.1
          obtain ⟨z1, rfl⟩ := Int.eq_ofNat_of_zero_le q1.1
          obtain ⟨z2, rfl⟩ := Int.eq_ofNat_of_zero_le q2.1
          obtain ⟨z3, rfl⟩ := Int.eq_ofNat_of_zero_le q3.1
          obtain ⟨z4, rfl⟩ := Int.eq_ofNat_of_zero_le q4.1
          obtain ⟨z5, rfl⟩ := Int.eq_ofNat_of_zero_le q5.1
          obtain ⟨z6, rfl⟩ := Int.eq_ofNat_of_zero_le q6.1
          obtain ⟨z8, rfl⟩ := Int.eq_ofNat_of_zero_le q8.1
          exact ⟨⟨z0, z1, z2, z3, z4, z5, z6, z7, z8, b, z10⟩, a, c, rfl, ⟨by show z0 < _; omega, by show z1 < _; omega, by show z2 < _; omega, by show z3 < _; omega, by show z4 < _; omega, by show z5 < _; omega, by show z6 < _; omega, by show z8 < _; omega, q10.1, q10.2⟩, hr, hc1, hc2⟩
end Go.Proofs.Ytnnhgennmlkpmaa
