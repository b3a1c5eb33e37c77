/-
  From a law's walk to its row, whatever its parameters; arguments opened as lists.
-/
import Derived.Test.YtglgjakjhkdoaaaDoorItems
import Derived.ProofKit
import Derived.OpenShut
import Derived.Carry
import Derived.ChangeSame
import Derived.Deep.Slices
import Derived.Deep.Fields
namespace Go.Proofs.YtglgjakjhkdoaaaDoor
open Go.RowKit Go.ChangeShapes Go.WideShapes Go.ChangeAt Go.Deep
set_option linter.unusedSimpArgs false
set_option linter.unusedVariables false

theorem own : ownKnob Tryd.prog.godebug = none := by kernel_rfl
theorem laidOut : laidOutB Tryd.prog = true := by kernel_rfl

theorem trodAll_stays {H : Type} {enc : TypeId × Value → H} {W W' : World} (hb : Below W.heap.size W W') : ∀ (ts : List TypeId) (vs : List Value) (ds : List (DataW H)) (ps : List MemPlace), (∀ t ∈ ts, Tryd.prog.readableRec t = true ∧ t < Tryd.prog.types.size) →
    DataW.TrodAll enc Tryd.prog W 0 (fun _ => true) true ts vs ds ps → (∀ x ∈ ps, x.block < W.heap.size) → ∀ sp : Nat → Bool, (∀ x ∈ ps, sp x.block = true) → DataW.TrodAll enc Tryd.prog W' 0 sp true ts vs ds ps
  | [], vs, ds, ps, _, h, _, sp, _ => by
    obtain ⟨rfl, rfl, rfl⟩ := trodAll_nil h
    exact trodAll_mk0
  | t :: ts, vs, ds, ps, hr, h, hlt, sp, hsp => by
    obtain ⟨v, vs', d, ds', p, q, rfl, rfl, rfl, h1, h2⟩ := trodAll_cons h
    obtain ⟨r1, r2⟩ := hr t (by simp)
    exact trodAll_cons_mk (WideElems.Trod_stays laidOut r1 r2 h1 (fun x hx => hb.same (hlt x (List.mem_append_left _ hx))) (fun x hx => hsp x (List.mem_append_left _ hx)))
      (trodAll_stays hb ts vs' ds' q (fun t ht => hr t (by simp [ht])) h2 (fun x hx => hlt x (List.mem_append_right _ hx)) sp (fun x hx => hsp x (List.mem_append_right _ hx)))

/-- what a law's row asks behind its walk -/
theorem law_post {H : Type} {enc : TypeId × Value → H} {f : Func} {s : ChangeSpec} {W W' : World} {args : Array Value} {ds gs : List (DataW H)} {before : List MemPlace}
    (hW : DataW.Whole enc Tryd.prog f.params.toList s.vars false W args.toList ds gs before) (hb : Below W.heap.size W W') (hv : s.vars = []) (hr : f.resultTypes = #[4])
    (hs : s.fn H (ds ++ gs) = { results := [.lit (.bool true)], args := ds }) (hp0 : (f.params.toList.all fun t => Tryd.prog.readableRec t && decide (t < Tryd.prog.types.size)) = true) :
    s.post enc Tryd.prog f false true false false W args (.bool true) W' := by
  have hp : ∀ t ∈ f.params.toList, Tryd.prog.readableRec t = true ∧ t < Tryd.prog.types.size := fun t ht => by
    have := List.all_eq_true.1 hp0 t ht
    simpa using this
  have hlt : ∀ x ∈ before, x.block < W.heap.size := fun x hx => hW.lt x hx
  have hW' := hW
  obtain ⟨p, q, hA, hV, rfl, hfz, _⟩ := hW
  rw [hv] at hV
  obtain ⟨rfl, rfl⟩ := trodVars_none hV
  refine ⟨ds, [], _, [], p, [], hW', ?_, ?_, ?_, World.keptBut_mono (fun x hx => ⟨hx, ?_⟩) (hb.frame (· ∈ p ++ [])), fun h => by cases h⟩
  · rw [hs, hr]
    exact trodAll_cons_mk (shut_bool Tryd.underlying4 true) trodAll_mk0
  · rw [hs]
    exact trodAll_stays hb _ _ _ _ hp hA (fun x hx => hlt x (List.mem_append_left _ hx)) _ (fun x hx => by simpa using hlt x (List.mem_append_left _ hx))
  · rw [hv, hs]
    rfl
  · simpa using hx

theorem list_of_key {α : Type} {R : Nat → α → Prop} : ∀ n, (∀ i, i < n → ∃ y, R i y) → ∃ l : List α, l.length = n ∧ ∀ i (hi : i < l.length), R i l[i]
  | 0, _ => ⟨[], rfl, fun i hi => by simp at hi⟩
  | n + 1, key => by
    obtain ⟨b, hbl, hb⟩ := list_of_key n fun i hi => key i (by omega)
    obtain ⟨y, hy⟩ := key n (by omega)
    refine ⟨b ++ [y], by simp [hbl], fun i hi => ?_⟩
    by_cases e : i < b.length
    · rw [List.getElem_append_left e]; exact hb i e
    · have : i = n := by simp at hi; omega
      subst this
      rw [List.getElem_append_right (by omega)]
      simpa [hbl] using hy

/-- an int's bounds -/
theorem wf_u8 {n : Int} (h : (Lit.int .u8 n).wf = true) : 0 ≤ n ∧ n ≤ 255 := by simpa [Lit.wf, IntKind.min, IntKind.max, IntKind.signed, IntKind.bits] using h
theorem wf_u16 {n : Int} (h : (Lit.int .u16 n).wf = true) : 0 ≤ n ∧ n ≤ 65535 := by simpa [Lit.wf, IntKind.min, IntKind.max, IntKind.signed, IntKind.bits] using h
theorem wf_u32 {n : Int} (h : (Lit.int .u32 n).wf = true) : 0 ≤ n ∧ n ≤ 4294967295 := by simpa [Lit.wf, IntKind.min, IntKind.max, IntKind.signed, IntKind.bits] using h
theorem wf_u64 {n : Int} (h : (Lit.int .u64 n).wf = true) : 0 ≤ n ∧ n ≤ 18446744073709551615 := by simpa [Lit.wf, IntKind.min, IntKind.max, IntKind.signed, IntKind.bits] using h
theorem wf_i64 {n : Int} (h : (Lit.int .i64 n).wf = true) : -9223372036854775808 ≤ n ∧ n ≤ 9223372036854775807 := by simpa [Lit.wf, IntKind.min, IntKind.max, IntKind.signed, IntKind.bits] using h

/-- a list of bytes that came in -/
theorem open_bytes {H : Type} {enc : TypeId × Value → H} {W : World} {fuel : Nat} {cs : List Value} {x : DataW H × List MemPlace} (h : DataW.trod enc Tryd.prog W 0 (fun _ => true) true fuel 23 cs = some x) :
    ∃ (v : Value) (b : List UInt8), cs = [v] ∧ Rd W v 1 b.length (bcells b) ∧ b.length ≤ maxLen := by
  rcases open_slice Tryd.underlying23 h with ⟨rfl, _⟩ | ⟨a, len, cap, m, n, D, Pl, rfl, _, hl, hm, hmm, _, hi⟩
  · exact ⟨_, [], rfl, ⟨by simp [bcells], .inl ⟨rfl, rfl⟩⟩, by decide⟩
  simp only [if_true] at hmm
  have hC : Tryd.prog.cellsOf 5 = 1 := by kernel_rfl
  have key : ∀ i, i < len → ∃ y : UInt8, W.cell? (a.add i) = some (.int .u8 y.toNat) := by
    intro i hi'
    obtain ⟨cs', hc, ht⟩ := hi i (by omega)
    rw [hC, Nat.mul_one] at hc
    obtain ⟨_, hcl, hat⟩ := World.cells?_some hc
    obtain ⟨z, rfl, _, hwf⟩ := DataW.trod_int Tryd.underlying5 ht
    have h0 := hat 0 (by omega)
    have hz : 0 ≤ z ∧ z ≤ 255 := by simpa [Lit.wf, IntKind.min, IntKind.max, IntKind.signed, IntKind.bits] using hwf
    refine ⟨UInt8.ofNat z.toNat, ?_⟩
    have e : ((UInt8.ofNat z.toNat).toNat : Int) = z := by simp; omega
    rw [e]
    simpa [Addr.add] using h0
  obtain ⟨b, hbl, hb⟩ := list_of_key len key
  subst hbl
  refine ⟨_, b, rfl, ⟨by simp [bcells], .inr ⟨a, cap, rfl, fun j u hu => ?_⟩⟩, by omega⟩
  simp only [bcells, List.getElem?_map, Option.map_eq_some_iff] at hu
  obtain ⟨y, hy, rfl⟩ := hu
  obtain ⟨hj, rfl⟩ := List.getElem?_eq_some_iff.1 hy
  exact hb j hj

/-- a list of structs of one-cell fields that came in: each one's cells, and the reading of each -/
theorem open_structs {H : Type} {enc : TypeId × Value → H} {W : World} {fuel : Nat} {cs : List Value} {x : DataW H × List MemPlace} {t e : TypeId} {fs : Array Field} (ht : Tryd.prog.underlying t = some (.slice e)) (he : Tryd.prog.underlying e = some (.struct fs))
    (hone : oneCellFields Tryd.prog fs = true) (hC : Tryd.prog.cellsOf e = fs.size) (h : DataW.trod enc Tryd.prog W 0 (fun _ => true) true fuel t cs = some x) (R : List Value → Prop)
    (hR : ∀ vs : List Value, vs.length = fs.size → (∀ (j : Nat) (f : Field), fs[j]? = some f → ∃ n v y, vs[j]? = some v ∧ DataW.trod enc Tryd.prog W 0 (fun _ => true) true n f.type [v] = some y) → R vs) :
    ∃ (v : Value) (L : List (List Value)), cs = [v] ∧ Rd W v fs.size L.length L.flatten ∧ (∀ c ∈ L, c.length = fs.size ∧ R c) ∧ L.length ≤ maxLen := by
  rcases open_slice ht h with ⟨rfl, _⟩ | ⟨a, len, cap, m, n, D, Pl, rfl, _, hl, hm, hmm, _, hi⟩
  · exact ⟨_, [], rfl, ⟨by simp, .inl ⟨rfl, rfl⟩⟩, fun c hc => (by cases hc), by decide⟩
  simp only [if_true] at hmm
  have key : ∀ i, i < len → ∃ c : List Value, c.length = fs.size ∧ R c ∧ ∀ j, j < fs.size → W.cell? (a.add (i * fs.size + j)) = c[j]? := by
    intro i hi'
    obtain ⟨cs', hc, ht'⟩ := hi i (by omega)
    rw [hC] at hc
    obtain ⟨ys, n', _, _, hlen, hyl, hf⟩ := DataW.trod_struct he ht'
    obtain ⟨_, hcl, hat⟩ := World.cells?_some hc
    refine ⟨cs', by omega, hR cs' (by omega) fun j f hj => ?_, fun j hj => ?_⟩
    · obtain ⟨ho, hk⟩ := hone_of hone j f hj
      have hjl : j < fs.size := (Array.getElem?_eq_some_iff.1 hj).1
      have h1 := hf j f hj
      rw [ho, hk] at h1
      have hone' : (cs'.drop j).take 1 = [cs'[j]'(by omega)] := by
        rw [List.drop_eq_getElem_cons (by omega)]
        rfl
      rw [hone'] at h1
      exact ⟨n', _, ys[j]'(by omega), List.getElem?_eq_getElem (by omega), h1.trans (List.getElem?_eq_getElem (by omega))⟩
    · rw [← Go.Deep.add_add, hat j hj]
  obtain ⟨L, hLl, hL⟩ := list_of_key len key
  subst hLl
  have hlen : ∀ c ∈ L, c.length = fs.size ∧ R c := fun c hc => by
    obtain ⟨i, hi, rfl⟩ := List.getElem_of_mem hc
    exact ⟨(hL i hi).1, (hL i hi).2.1⟩
  have hfl : ∀ (M : List (List Value)), (∀ c ∈ M, c.length = fs.size) → M.flatten.length = M.length * fs.size := by
    intro M
    induction M with
    | nil => simp
    | cons c M ih => intro hM; rw [List.flatten_cons, List.length_append, ih fun c hc => hM c (by simp [hc]), hM c (by simp), List.length_cons, Nat.add_mul]; omega
  have hget : ∀ (M : List (List Value)), (∀ c ∈ M, c.length = fs.size) → ∀ (k : Nat) (u : Value), M.flatten[k]? = some u → ∃ i j, ∃ hi : i < M.length, j < fs.size ∧ k = i * fs.size + j ∧ M[i][j]? = some u := by
    intro M
    induction M with
    | nil => intro _ k u h; simp at h
    | cons c M ih =>
      intro hM k u hk
      rw [List.flatten_cons] at hk
      have hc := hM c (by simp)
      by_cases e : k < c.length
      · rw [List.getElem?_append_left e] at hk
        exact ⟨0, k, by simp, by omega, by omega, by simpa using hk⟩
      · rw [List.getElem?_append_right (by omega)] at hk
        obtain ⟨i, j, hi, hj, hkk, hu⟩ := ih (fun c hc => hM c (by simp [hc])) _ u hk
        exact ⟨i + 1, j, by simpa using hi, hj, by rw [Nat.add_mul]; omega, by simpa using hu⟩
  refine ⟨_, L, rfl, ⟨hfl L fun c hc => (hlen c hc).1, .inr ⟨a, cap, rfl, fun k u hu => ?_⟩⟩, hlen, by omega⟩
  obtain ⟨i, j, hi, hj, rfl, hu'⟩ := hget L (fun c hc => (hlen c hc).1) k u hu
  rw [(hL i hi).2.2 j hj]
  exact hu'
end Go.Proofs.YtglgjakjhkdoaaaDoor
