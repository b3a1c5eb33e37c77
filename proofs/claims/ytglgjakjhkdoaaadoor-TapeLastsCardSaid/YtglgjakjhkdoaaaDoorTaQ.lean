/-
  The journal's calls that come in.
-/
import Derived.Test.YtglgjakjhkdoaaaDoorTaP
import Derived.Test.YtglgjakjhkdoaaaDoorFsRN
namespace Go.Proofs.YtglgjakjhkdoaaaDoor
open Go.RowKit Go.ChangeShapes Go.WideShapes Go.ChangeAt Go.Deep
set_option linter.unusedVariables false
set_option linter.unusedSimpArgs false

theorem trodAll_five {H : Type} {enc : TypeId × Value → H} {P : Program} {w : World} {base : Nat} {spare : Nat → Bool} {held : Bool} {t t' t'' t3 t4 : TypeId} {args : Array Value} {ds : List (DataW H)} {ps : List MemPlace} (h : DataW.TrodAll enc P w base spare held [t, t', t'', t3, t4] args.toList ds ps) :
    ∃ v v' v'' v3 v4 d d' d'' d3 d4 p p' p'' p3 p4, args = #[v, v', v'', v3, v4] ∧ ds = [d, d', d'', d3, d4] ∧ ps = p ++ p' ++ p'' ++ p3 ++ p4 ∧ DataW.Trod enc P w base spare held t v d p ∧ DataW.Trod enc P w base spare held t' v' d' p' ∧ DataW.Trod enc P w base spare held t'' v'' d'' p'' ∧ DataW.Trod enc P w base spare held t3 v3 d3 p3 ∧ DataW.Trod enc P w base spare held t4 v4 d4 p4 := by
  obtain ⟨v, vs, d, ds', p, q, hargs, rfl, rfl, hd, hrest⟩ := trodAll_cons h
  obtain ⟨v', vs', d', ds'', p', q', rfl, rfl, rfl, hd', hrest'⟩ := trodAll_cons hrest
  obtain ⟨v'', vs'', d'', ds''', p'', q'', rfl, rfl, rfl, hd'', hrest''⟩ := trodAll_cons hrest'
  obtain ⟨v3, vs3, d3, ds3, p3, q3, rfl, rfl, rfl, hd3, hrest3⟩ := trodAll_cons hrest''
  obtain ⟨v4, vs4, d4, ds4, p4, q4, rfl, rfl, rfl, hd4, hrest4⟩ := trodAll_cons hrest3
  obtain ⟨rfl, rfl, rfl⟩ := trodAll_nil hrest4
  exact ⟨v, v', v'', v3, v4, d, d', d'', d3, d4, p, p', p'', p3, p4, by cases args; simp_all, rfl, by simp, hd, hd', hd'', hd3, hd4⟩
theorem flat_len6 {α : Type} {f : α → List Value} {s : Nat} (hs : ∀ a, (f a).length = s) : ∀ L : List α, (L.flatMap f).length = L.length * s
  | [] => by simp
  | a :: L => by rw [List.flatMap_cons, List.length_append, hs, flat_len6 hs L, List.length_cons, Nat.add_mul]; omega
set_option maxRecDepth 100000 in
theorem open_opts {H : Type} {enc : TypeId × Value → H} {W : World} {fuel : Nat} {cs : List Value} {x : DataW H × List MemPlace} (h : DataW.trod enc Tryd.prog W 0 (fun _ => true) true fuel 30 cs = some x) :
    ∃ (v : Value) (L : List Opt), cs = [v] ∧ RdOpts W v L := by
  rcases open_slice Tryd.underlying30 h with ⟨rfl, _⟩ | ⟨a, len, cap, m, n, D, Pl, rfl, _, hl, hm, hmm, _, hi⟩
  · exact ⟨_, [], rfl, ⟨by simp, .inl ⟨rfl, rfl⟩⟩, (fun o ho => by cases ho), by decide⟩
  simp only [if_true] at hmm
  have hC : Tryd.prog.cellsOf 29 = 6 := by kernel_rfl
  have kU : Tryd.prog.cellsOf 5 = 1 := by kernel_rfl
  have kB : Tryd.prog.cellsOf 23 = 1 := by kernel_rfl
  have kN : Tryd.prog.cellsOf 22 = 1 := by kernel_rfl
  have kI : Tryd.prog.cellsOf 3 = 1 := by kernel_rfl
  have kL : Tryd.prog.cellsOf 27 = 2 := by kernel_rfl
  have kK : Tryd.prog.cellsOf 25 = 1 := by kernel_rfl
  have key : ∀ i, i < len → ∃ o : Opt, o.Ok W ∧ ∀ j, j < 6 → W.cell? (a.add (i * 6 + j)) = o.cells[j]? := by
    intro i hi'
    obtain ⟨cs', hc, ht⟩ := hi i (by omega)
    rw [hC] at hc
    obtain ⟨_, hcl, hat⟩ := World.cells?_some hc
    obtain ⟨ys, n', _, _, _, hyl, hf⟩ := DataW.trod_struct Tryd.underlying29 ht
    match cs', hcl with
    | [x0, x1, x2, x3, x4, x5], _ =>
      match ys, hyl with
      | [y0, y1, y2, y3, y4], _ =>
        obtain ⟨n0, e0, _, w0⟩ := DataW.trod_int Tryd.underlying5 (by simpa [kU] using hf 0 _ rfl : DataW.trod enc Tryd.prog W 0 (fun _ => true) true n' 5 [x0] = some y0)
        obtain ⟨a1, c1, b1, e1, hr1, hl1, hd1⟩ := open_bytesC (by simpa [kB] using hf 1 _ rfl : DataW.trod enc Tryd.prog W 0 (fun _ => true) true n' 23 [x1] = some y1)
        obtain ⟨v2, l2, e2, hr2, hm2⟩ := open_notes (by simpa [kN] using hf 2 _ rfl : DataW.trod enc Tryd.prog W 0 (fun _ => true) true n' 22 [x2] = some y2)
        obtain ⟨n3, e3, _, w3⟩ := DataW.trod_int Tryd.underlying5 (by simpa [kU] using hf 3 _ rfl : DataW.trod enc Tryd.prog W 0 (fun _ => true) true n' 5 [x3] = some y3)
        obtain ⟨zs, n5, _, _, _, hzl, hg⟩ := DataW.trod_struct Tryd.underlying27 (by simpa [kL] using hf 4 _ rfl : DataW.trod enc Tryd.prog W 0 (fun _ => true) true n' 27 [x4, x5] = some y4)
        match zs, hzl with
        | [z0, z1], _ =>
          obtain ⟨ka, kn, kc, K, e5, hr5, hm5⟩ := open_bools (by simpa [kK] using hg 0 _ rfl : DataW.trod enc Tryd.prog W 0 (fun _ => true) true n5 25 [x4] = some z0)
          obtain ⟨n6, e6, _, w6⟩ := DataW.trod_int Tryd.underlying3 (by simpa [kI] using hg 1 _ rfl : DataW.trod enc Tryd.prog W 0 (fun _ => true) true n5 3 [x5] = some z1)
          simp only [List.cons.injEq, and_true] at e0 e1 e2 e3 e5 e6
          obtain ⟨la, lc, rfl⟩ := hr2.head
          have hu8 := wf_u8 w0
          have hu83 := wf_u8 w3
          refine ⟨⟨n0.toNat, b1, a1, b1.length, c1, l2, la, l2.length, lc, n3.toNat, ka, kn, kc, K, n6⟩, ⟨by show n0.toNat < 256; omega, hr1, rfl, hl1, hd1, hr2, rfl, hm2, by show n3.toNat < 256; omega, hr5, hm5, (wf_i64 w6).1, (wf_i64 w6).2⟩, fun j hj => ?_⟩
          have h9 := hat j (by omega)
          rw [Go.Deep.add_add] at h9
          rw [h9]
          subst e0 e1 e2 e3 e5 e6
          have e9 : ((n0.toNat : Nat) : Int) = n0 := by omega
          have e93 : ((n3.toNat : Nat) : Int) = n3 := by omega
          simp only [Opt.cells, e9, e93]
  obtain ⟨L, hLl, hL⟩ := list_of_key len key
  subst hLl
  have hs : ∀ o : Opt, o.cells.length = 6 := fun _ => rfl
  refine ⟨_, L, rfl, ⟨by rw [flat_len6 hs], .inr ⟨a, cap, rfl, fun j u hu => ?_⟩⟩, fun o ho => ?_, by omega⟩
  · have hjl : j < L.length * 6 := by rw [← flat_len6 hs]; exact (List.getElem?_eq_some_iff.1 hu).1
    have h1 : j / 6 < L.length := by omega
    have h2 := (hL (j / 6) h1).2 (j % 6) (Nat.mod_lt _ (by omega))
    have h3 : j / 6 * 6 + j % 6 = j := by omega
    rw [h3] at h2
    rw [h2, ← flat_at' hs L (j / 6) h1 (j % 6) (Nat.mod_lt _ (by omega)), h3]
    exact hu
  · obtain ⟨i, hi, rfl⟩ := List.getElem_of_mem ho
    exact (hL i hi).1
end Go.Proofs.YtglgjakjhkdoaaaDoor
