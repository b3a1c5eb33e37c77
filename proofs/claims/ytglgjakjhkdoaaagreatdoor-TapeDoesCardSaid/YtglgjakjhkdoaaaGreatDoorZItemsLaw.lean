/-
Slices of structs that each hold one slice of bytes of their own: what they read as, all their blocks, and what append leaves.
From a law's walk to its row, whatever its parameters; arguments opened as lists.
-/
import Derived.Test.YtglgjakjhkdoaaaGreatDoorBase
import Derived.ProofKit
import Derived.OpenShut
import Derived.Carry
import Derived.ChangeSame
import Derived.Deep.Slices
import Derived.Deep.Fields
namespace Go.Proofs.YtglgjakjhkdoaaaGreatDoor
open Go.RowKit
set_option linter.unusedSimpArgs false
set_option linter.unusedVariables false

theorem Chg.alloc {F F' : List Nat} {w w' : World} (h : Chg F F' w w') (o : Obj) : Chg F F' w (w'.alloc o) :=
  ⟨h.os, h.tape, h.output, by have := h.size; simp; omega, fun k hk hn => (Below.heap_alloc w' o k (Nat.lt_of_lt_of_le hk h.size)).trans (h.block k hk hn), h.fresh⟩
theorem Chg.sub {F F' G : List Nat} {w w' : World} (h : Chg F F' w w') (hs : ∀ k ∈ G, k ∈ F') : Chg F G w w' :=
  ⟨h.os, h.tape, h.output, h.size, h.block, fun k hk => h.fresh k (hs k hk)⟩

structure Item where
  pre : List Value
  x : Value
  post : List Value
  b : List UInt8
def Item.cells (t : Item) : List Value := t.pre ++ t.x :: t.post
def itFp (v : Value) (L : List Item) : List Nat := v.ownBlock.toList ++ L.flatMap fun t => t.x.ownBlock.toList

structure Items (w : World) (e size : Nat) (v : Value) (L : List Item) : Prop where
  nodup : (itFp v L).Nodup
  row : w.ownsRow 0 e size v L.length (L.flatMap Item.cells)
  each : ∀ t ∈ L, t.cells.length = size ∧ (∀ u ∈ t.cells, u.oneCell' = true) ∧ w.ownsRow 0 5 1 t.x t.b.length (bcells t.b)

theorem Items.nil (w : World) (e size : Nat) : Items w e size (.slice none 0 0) [] :=
  ⟨by simp [itFp, Value.ownBlock], by simpa using World.ownsRow_nil w 0 e size, fun _ h => by cases h⟩
theorem Items.same {w w' : World} {e size : Nat} {v : Value} {L : List Item} (h : Items w e size v L) (hk : ∀ k ∈ itFp v L, w'.heap[k]? = w.heap[k]?) : Items w' e size v L := by
  refine ⟨h.nodup, ownsRow_same h.row fun b hb => hk b (by simp [itFp, hb]), fun t ht => ⟨(h.each t ht).1, (h.each t ht).2.1, ownsRow_same (h.each t ht).2.2 fun b hb => hk b ?_⟩⟩
  simp only [itFp, List.mem_append, List.mem_flatMap]
  exact .inr ⟨t, ht, by simp [hb]⟩
theorem Items.lt {w : World} {e size : Nat} {v : Value} {L : List Item} (h : Items w e size v L) : ∀ k ∈ itFp v L, k < w.heap.size := by
  intro k hk
  simp only [itFp, List.mem_append, List.mem_flatMap, Option.mem_toList] at hk
  rcases hk with hk | ⟨t, ht, hk⟩
  · exact (h.row.lt k hk).2
  · exact ((h.each t ht).2.2.lt k hk).2
theorem flat_length {size : Nat} : ∀ {L : List Item}, (∀ t ∈ L, t.cells.length = size) → (L.flatMap Item.cells).length = L.length * size
  | [], _ => by simp
  | t :: L, h => by
    rw [List.flatMap_cons, List.length_append, flat_length fun t ht => h t (by simp [ht]), h t (by simp), List.length_cons, Nat.add_mul, Nat.one_mul, Nat.add_comm]
theorem flat_get {size : Nat} : ∀ {L : List Item}, (∀ t ∈ L, t.cells.length = size) → ∀ {i j : Nat} {t : Item}, L[i]? = some t → j < size → (L.flatMap Item.cells)[i * size + j]? = t.cells[j]?
  | t0 :: L, h, 0, j, t, hi, hj => by
    simp only [List.getElem?_cons_zero, Option.some.injEq] at hi
    subst hi
    rw [List.flatMap_cons, Nat.zero_mul, Nat.zero_add, List.getElem?_append_left (by rw [h t0 (by simp)]; exact hj)]
  | t0 :: L, h, i + 1, j, t, hi, hj => by
    have h0 := h t0 (by simp)
    rw [List.flatMap_cons, List.getElem?_append_right (by rw [h0, Nat.add_mul]; omega), h0, show (i + 1) * size + j - size = i * size + j from by rw [Nat.add_mul]; omega]
    exact flat_get (fun t ht => h t (by simp [ht])) (by simpa using hi) hj
theorem Items.get {w : World} {e size : Nat} {v : Value} {L : List Item} (h : Items w e size v L) {i : Nat} {t : Item} (hi : L[i]? = some t) :
    ∃ g cap, v = .slice (some ⟨g, 0, none⟩) L.length cap ∧ (∀ j, j < size → w.cell? ⟨g, i * size + j, none⟩ = t.cells[j]?) ∧ (∀ o, w.frozen? ⟨g, o, none⟩ = false) ∧ g < w.heap.size := by
  have hlt := (List.getElem?_eq_some_iff.1 hi).1
  obtain ⟨g, cap, rfl, _⟩ := ownsRow_some h.row (by
    intro e0
    rcases h.row.2 with ⟨_, hz⟩ | ⟨_, _, _, hz, _⟩
    · omega
    · rw [e0] at hz; cases hz)
  refine ⟨g, cap, rfl, fun j hj => ?_, h.row.frozenAt, (h.row.lt g rfl).2⟩
  have hb : i * size + j < L.length * size := by
    have : (i + 1) * size ≤ L.length * size := Nat.mul_le_mul_right _ hlt
    rw [Nat.add_mul] at this
    omega
  rw [h.row.cellAt _ hb]
  exact flat_get (fun t ht => (h.each t ht).1) hi hj
theorem Items.head {w : World} {e size : Nat} {v : Value} {L : List Item} (h : Items w e size v L) : ∃ a c, v = .slice a L.length c := by
  rcases h.row.2 with ⟨rfl, hz⟩ | ⟨g, cap, _, rfl, _⟩
  · exact ⟨none, 0, by rw [hz]⟩
  · exact ⟨_, _, rfl⟩

theorem nodup_itFp_app {v v' : Value} {L : List Item} {t : Item} {B C : Nat} (h : (itFp v L).Nodup) (hlt : ∀ k ∈ itFp v L, k < B) (hx : ∀ g, t.x.ownBlock = some g → B ≤ g ∧ g < C)
    (hBC : B ≤ C) (hv : v'.ownBlock = v.ownBlock ∨ v'.ownBlock = some C) : (itFp v' (L ++ [t])).Nodup := by
  simp only [itFp, List.flatMap_append, List.flatMap_cons, List.flatMap_nil, List.append_nil] at h hlt ⊢
  rw [← List.append_assoc]
  have hL : ∀ k ∈ L.flatMap (fun t => t.x.ownBlock.toList), k < B := fun k hk => hlt k (List.mem_append_right _ hk)
  have h2 := List.nodup_append.1 h
  have hmid : (v'.ownBlock.toList ++ L.flatMap fun t => t.x.ownBlock.toList).Nodup := by
    rcases hv with e | e
    · rw [e]; exact h
    · rw [e]
      simp only [Option.toList_some, List.cons_append, List.nil_append, List.nodup_cons]
      exact ⟨fun hm => by have := hL _ hm; omega, h2.2.1⟩
  refine List.nodup_append.2 ⟨hmid, by cases t.x.ownBlock <;> simp, fun a ha b hb => ?_⟩
  have hb' := hx b (by simpa using hb)
  rcases List.mem_append.1 ha with ha | ha
  · rcases hv with e | e
    · rw [e] at ha
      have := hlt a (List.mem_append_left _ ha)
      omega
    · rw [e] at ha
      simp only [Option.toList_some, List.mem_singleton] at ha
      omega
  · have := hL a ha
    omega

theorem Items.append {w w1 w2 : World} {e size : Nat} {v v' : Value} {L : List Item} {t : Item} (h : Items w e size v L) (hb : Below w.heap.size w w1) (ht : t.cells.length = size) (ht1 : ∀ u ∈ t.cells, u.oneCell' = true)
    (hx : w1.ownsRow 0 5 1 t.x t.b.length (bcells t.b)) (hxn : ∀ g, t.x.ownBlock = some g → w.heap.size ≤ g) (hgrow : w1.grownBy w2 v.ownBlock)
    (hown2 : w2.ownsRow 0 e size v' (L.length + 1) (L.flatMap Item.cells ++ t.cells)) (hv' : v'.ownBlock = v.ownBlock ∨ v'.ownBlock = some w1.heap.size) :
    Items w2 e size v' (L ++ [t]) ∧ Chg (itFp v L) (itFp v' (L ++ [t])) w w2 := by
  have hlt := h.lt
  have hs1 := hb.size
  have hxg : ∀ g, t.x.ownBlock = some g → w.heap.size ≤ g ∧ g < w1.heap.size := fun g hg => ⟨hxn g hg, (hx.lt g hg).2⟩
  have hnd := nodup_itFp_app (t := t) h.nodup hlt hxg hs1 hv'
  have hk : ∀ k, k < w1.heap.size → some k ≠ v.ownBlock → w2.heap[k]? = w1.heap[k]? := hgrow.block
  have hnd2 := List.nodup_append.1 h.nodup
  refine ⟨⟨hnd, by simpa using hown2, fun s hs => ?_⟩, ⟨hgrow.os.trans hb.os, hgrow.tape.trans hb.tape, hgrow.output.trans hb.output, Nat.le_trans hb.size hgrow.size, fun k hkl hkn => ?_, fun k hk' => ?_⟩⟩
  · rcases List.mem_append.1 hs with hs | hs
    · obtain ⟨h1, h2, h3⟩ := h.each s hs
      refine ⟨h1, h2, ownsRow_same h3 fun b hb' => ?_⟩
      have hbm : b ∈ L.flatMap fun t => t.x.ownBlock.toList := List.mem_flatMap.2 ⟨s, hs, by simp [hb']⟩
      have hbl := hlt b (List.mem_append_right _ hbm)
      rw [hk b (by omega) (fun e => hnd2.2.2 b (by simp [← e]) b hbm rfl), hb.block b hbl]
    · simp only [List.mem_singleton] at hs
      subst hs
      refine ⟨ht, ht1, ownsRow_same hx fun b hb' => hk b (hxg b hb').2 fun e => ?_⟩
      have := hlt b (by simp [itFp, ← e])
      have := (hxg b hb').1
      omega
  · simp only [itFp, List.mem_append, not_or, Option.mem_toList] at hkn
    rw [hk k (by omega) (fun e => hkn.1 e.symm), hb.block k hkl]
  · simp only [itFp, List.flatMap_append, List.flatMap_cons, List.flatMap_nil, List.append_nil, List.mem_append, Option.mem_toList] at hk' ⊢
    rcases hk' with hk' | hk' | hk'
    · rcases hv' with e | e
      · exact .inl (.inl (e ▸ hk'))
      · rw [e] at hk'
        cases hk'
        exact .inr hs1
    · exact .inl (.inr hk')
    · exact .inr (hxn k hk')

structure RdItems (w : World) (size : Nat) (v : Value) (L : List Item) : Prop where
  row : Rd w v size L.length (L.flatMap Item.cells)
  each : ∀ t ∈ L, t.cells.length = size ∧ Rd w t.x 1 t.b.length (bcells t.b)
theorem Items.rd {w : World} {e size : Nat} {v : Value} {L : List Item} (h : Items w e size v L) : RdItems w size v L :=
  ⟨ownsRow_rd h.row, fun t ht => ⟨(h.each t ht).1, ownsRow_rd (h.each t ht).2.2⟩⟩
theorem RdItems.same {w w' : World} {size : Nat} {v : Value} {L : List Item} (h : RdItems w size v L) (hk : ∀ k, k < w.heap.size → (v.ownBlock = some k ∨ ∃ t ∈ L, t.x.ownBlock = some k) → w'.heap[k]? = w.heap[k]?) : RdItems w' size v L :=
  ⟨h.row.kept fun b hb hl => hk b hl (.inl hb), fun t ht => ⟨(h.each t ht).1, (h.each t ht).2.kept fun b hb hl => hk b hl (.inr ⟨t, ht, hb⟩)⟩⟩
end Go.Proofs.YtglgjakjhkdoaaaGreatDoor

namespace Go.Proofs.YtglgjakjhkdoaaaGreatDoor
open Go.RowKit Go.ChangeShapes Go.WideShapes Go.ChangeAt Go.Deep
set_option linter.unusedSimpArgs false
set_option linter.unusedVariables false

theorem own : ownKnob Tryz.prog.godebug = none := by kernel_rfl
theorem laidOut : laidOutB Tryz.prog = true := by kernel_rfl

theorem trodAll_stays {H : Type} {enc : TypeId × Value → H} {W W' : World} (hb : Below W.heap.size W W') : ∀ (ts : List TypeId) (vs : List Value) (ds : List (DataW H)) (ps : List MemPlace), (∀ t ∈ ts, Tryz.prog.readableRec t = true ∧ t < Tryz.prog.types.size) →
    DataW.TrodAll enc Tryz.prog W 0 (fun _ => true) true ts vs ds ps → (∀ x ∈ ps, x.block < W.heap.size) → ∀ sp : Nat → Bool, (∀ x ∈ ps, sp x.block = true) → DataW.TrodAll enc Tryz.prog W' 0 sp true ts vs ds ps
  | [], vs, ds, ps, _, h, _, sp, _ => by
    obtain ⟨rfl, rfl, rfl⟩ := trodAll_nil h
    exact trodAll_mk0
  | t :: ts, vs, ds, ps, hr, h, hlt, sp, hsp => by
    obtain ⟨v, vs', d, ds', p, q, rfl, rfl, rfl, h1, h2⟩ := trodAll_cons h
    obtain ⟨r1, r2⟩ := hr t (by simp)
    exact trodAll_cons_mk (WideElems.Trod_stays laidOut r1 r2 h1 (fun x hx => hb.same (hlt x (List.mem_append_left _ hx))) (fun x hx => hsp x (List.mem_append_left _ hx)))
      (trodAll_stays hb ts vs' ds' q (fun t ht => hr t (by simp [ht])) h2 (fun x hx => hlt x (List.mem_append_right _ hx)) sp (fun x hx => hsp x (List.mem_append_right _ hx)))

theorem law_post {H : Type} {enc : TypeId × Value → H} {f : Func} {s : ChangeSpec} {W W' : World} {args : Array Value} {ds gs : List (DataW H)} {before : List MemPlace}
    (hW : DataW.Whole enc Tryz.prog f.params.toList s.vars false W args.toList ds gs before) (hb : Below W.heap.size W W') (hv : s.vars = []) (hr : f.resultTypes = #[4])
    (hs : s.fn H (ds ++ gs) = { results := [.lit (.bool true)], args := ds }) (hp0 : (f.params.toList.all fun t => Tryz.prog.readableRec t && decide (t < Tryz.prog.types.size)) = true) :
    s.post enc Tryz.prog f false true false false W args (.bool true) W' := by
  have hp : ∀ t ∈ f.params.toList, Tryz.prog.readableRec t = true ∧ t < Tryz.prog.types.size := fun t ht => by
    have := List.all_eq_true.1 hp0 t ht
    simpa using this
  have hlt : ∀ x ∈ before, x.block < W.heap.size := fun x hx => hW.lt x hx
  have hW' := hW
  obtain ⟨p, q, hA, hV, rfl, hfz, _⟩ := hW
  rw [hv] at hV
  obtain ⟨rfl, rfl⟩ := trodVars_none hV
  refine ⟨ds, [], _, [], p, [], hW', ?_, ?_, ?_, World.keptBut_mono (fun x hx => ⟨hx, ?_⟩) (hb.frame (· ∈ p ++ [])), fun h => by cases h⟩
  · rw [hs, hr]
    exact trodAll_cons_mk (shut_bool Tryz.underlying4 true) trodAll_mk0
  · rw [hs]
    exact trodAll_stays hb _ _ _ _ hp hA (fun x hx => hlt x (List.mem_append_left _ hx)) _ (fun x hx => by simpa using hlt x (List.mem_append_left _ hx))
  · rw [hv, hs]
    rfl
  · simpa using hx

theorem list_of_key {α : Type} {R : Nat → α → Prop} : ∀ n, (∀ i, i < n → ∃ y, R i y) → ∃ l : List α, l.length = n ∧ ∀ i (hi : i < l.length), R i l[i]
  | 0, _ => ⟨[], rfl, fun i hi => by simp at hi⟩
  | n + 1, key => by
    obtain ⟨b, hbl, hb⟩ := list_of_key n fun i hi => key i (by omega)
    obtain ⟨y, hy⟩ := key n (by omega)
    refine ⟨b ++ [y], by simp [hbl], fun i hi => ?_⟩
    by_cases e : i < b.length
    · rw [List.getElem_append_left e]; exact hb i e
    · have : i = n := by simp at hi; omega
      subst this
      rw [List.getElem_append_right (by omega)]
      simpa [hbl] using hy

theorem wf_u8 {n : Int} (h : (Lit.int .u8 n).wf = true) : 0 ≤ n ∧ n ≤ 255 := by simpa [Lit.wf, IntKind.min, IntKind.max, IntKind.signed, IntKind.bits] using h
theorem wf_u16 {n : Int} (h : (Lit.int .u16 n).wf = true) : 0 ≤ n ∧ n ≤ 65535 := by simpa [Lit.wf, IntKind.min, IntKind.max, IntKind.signed, IntKind.bits] using h
theorem wf_u32 {n : Int} (h : (Lit.int .u32 n).wf = true) : 0 ≤ n ∧ n ≤ 4294967295 := by simpa [Lit.wf, IntKind.min, IntKind.max, IntKind.signed, IntKind.bits] using h
theorem wf_u64 {n : Int} (h : (Lit.int .u64 n).wf = true) : 0 ≤ n ∧ n ≤ 18446744073709551615 := by simpa [Lit.wf, IntKind.min, IntKind.max, IntKind.signed, IntKind.bits] using h
theorem wf_i64 {n : Int} (h : (Lit.int .i64 n).wf = true) : -9223372036854775808 ≤ n ∧ n ≤ 9223372036854775807 := by simpa [Lit.wf, IntKind.min, IntKind.max, IntKind.signed, IntKind.bits] using h

theorem open_bytes {H : Type} {enc : TypeId × Value → H} {W : World} {fuel : Nat} {cs : List Value} {x : DataW H × List MemPlace} (h : DataW.trod enc Tryz.prog W 0 (fun _ => true) true fuel 22 cs = some x) :
    ∃ (v : Value) (b : List UInt8), cs = [v] ∧ Rd W v 1 b.length (bcells b) ∧ b.length ≤ maxLen := by
  rcases open_slice Tryz.underlying22 h with ⟨rfl, _⟩ | ⟨a, len, cap, m, n, D, Pl, rfl, _, hl, hm, hmm, _, hi⟩
  · exact ⟨_, [], rfl, ⟨by simp [bcells], .inl ⟨rfl, rfl⟩⟩, by decide⟩
  simp only [if_true] at hmm
  have hC : Tryz.prog.cellsOf 5 = 1 := by kernel_rfl
  have key : ∀ i, i < len → ∃ y : UInt8, W.cell? (a.add i) = some (.int .u8 y.toNat) := by
    intro i hi'
    obtain ⟨cs', hc, ht⟩ := hi i (by omega)
    rw [hC, Nat.mul_one] at hc
    obtain ⟨_, hcl, hat⟩ := World.cells?_some hc
    obtain ⟨z, rfl, _, hwf⟩ := DataW.trod_int Tryz.underlying5 ht
    have h0 := hat 0 (by omega)
    have hz : 0 ≤ z ∧ z ≤ 255 := by simpa [Lit.wf, IntKind.min, IntKind.max, IntKind.signed, IntKind.bits] using hwf
    refine ⟨UInt8.ofNat z.toNat, ?_⟩
    have e : ((UInt8.ofNat z.toNat).toNat : Int) = z := by simp; omega
    rw [e]
    simpa [Addr.add] using h0
  obtain ⟨b, hbl, hb⟩ := list_of_key len key
  subst hbl
  refine ⟨_, b, rfl, ⟨by simp [bcells], .inr ⟨a, cap, rfl, fun j u hu => ?_⟩⟩, by omega⟩
  simp only [bcells, List.getElem?_map, Option.map_eq_some_iff] at hu
  obtain ⟨y, hy, rfl⟩ := hu
  obtain ⟨hj, rfl⟩ := List.getElem?_eq_some_iff.1 hy
  exact hb j hj

theorem open_structs {H : Type} {enc : TypeId × Value → H} {W : World} {fuel : Nat} {cs : List Value} {x : DataW H × List MemPlace} {t e : TypeId} {fs : Array Field} (ht : Tryz.prog.underlying t = some (.slice e)) (he : Tryz.prog.underlying e = some (.struct fs))
    (hone : oneCellFields Tryz.prog fs = true) (hC : Tryz.prog.cellsOf e = fs.size) (h : DataW.trod enc Tryz.prog W 0 (fun _ => true) true fuel t cs = some x) (R : List Value → Prop)
    (hR : ∀ vs : List Value, vs.length = fs.size → (∀ (j : Nat) (f : Field), fs[j]? = some f → ∃ n v y, vs[j]? = some v ∧ DataW.trod enc Tryz.prog W 0 (fun _ => true) true n f.type [v] = some y) → R vs) :
    ∃ (v : Value) (L : List (List Value)), cs = [v] ∧ Rd W v fs.size L.length L.flatten ∧ (∀ c ∈ L, c.length = fs.size ∧ R c) ∧ L.length ≤ maxLen := by
  rcases open_slice ht h with ⟨rfl, _⟩ | ⟨a, len, cap, m, n, D, Pl, rfl, _, hl, hm, hmm, _, hi⟩
  · exact ⟨_, [], rfl, ⟨by simp, .inl ⟨rfl, rfl⟩⟩, fun c hc => (by cases hc), by decide⟩
  simp only [if_true] at hmm
  have key : ∀ i, i < len → ∃ c : List Value, c.length = fs.size ∧ R c ∧ ∀ j, j < fs.size → W.cell? (a.add (i * fs.size + j)) = c[j]? := by
    intro i hi'
    obtain ⟨cs', hc, ht'⟩ := hi i (by omega)
    rw [hC] at hc
    obtain ⟨ys, n', _, _, hlen, hyl, hf⟩ := DataW.trod_struct he ht'
    obtain ⟨_, hcl, hat⟩ := World.cells?_some hc
    refine ⟨cs', by omega, hR cs' (by omega) fun j f hj => ?_, fun j hj => ?_⟩
    · obtain ⟨ho, hk⟩ := hone_of hone j f hj
      have hjl : j < fs.size := (Array.getElem?_eq_some_iff.1 hj).1
      have h1 := hf j f hj
      rw [ho, hk] at h1
      have hone' : (cs'.drop j).take 1 = [cs'[j]'(by omega)] := by
        rw [List.drop_eq_getElem_cons (by omega)]
        rfl
      rw [hone'] at h1
      exact ⟨n', _, ys[j]'(by omega), List.getElem?_eq_getElem (by omega), h1.trans (List.getElem?_eq_getElem (by omega))⟩
    · rw [← Go.Deep.add_add, hat j hj]
  obtain ⟨L, hLl, hL⟩ := list_of_key len key
  subst hLl
  have hlen : ∀ c ∈ L, c.length = fs.size ∧ R c := fun c hc => by
    obtain ⟨i, hi, rfl⟩ := List.getElem_of_mem hc
    exact ⟨(hL i hi).1, (hL i hi).2.1⟩
  have hfl : ∀ (M : List (List Value)), (∀ c ∈ M, c.length = fs.size) → M.flatten.length = M.length * fs.size := by
    intro M
    induction M with
    | nil => simp
    | cons c M ih => intro hM; rw [List.flatten_cons, List.length_append, ih fun c hc => hM c (by simp [hc]), hM c (by simp), List.length_cons, Nat.add_mul]; omega
  have hget : ∀ (M : List (List Value)), (∀ c ∈ M, c.length = fs.size) → ∀ (k : Nat) (u : Value), M.flatten[k]? = some u → ∃ i j, ∃ hi : i < M.length, j < fs.size ∧ k = i * fs.size + j ∧ M[i][j]? = some u := by
    intro M
    induction M with
    | nil => intro _ k u h; simp at h
    | cons c M ih =>
      intro hM k u hk
      rw [List.flatten_cons] at hk
      have hc := hM c (by simp)
      by_cases e : k < c.length
      · rw [List.getElem?_append_left e] at hk
        exact ⟨0, k, by simp, by omega, by omega, by simpa using hk⟩
      · rw [List.getElem?_append_right (by omega)] at hk
        obtain ⟨i, j, hi, hj, hkk, hu⟩ := ih (fun c hc => hM c (by simp [hc])) _ u hk
        exact ⟨i + 1, j, by simpa using hi, hj, by rw [Nat.add_mul]; omega, by simpa using hu⟩
  refine ⟨_, L, rfl, ⟨hfl L fun c hc => (hlen c hc).1, .inr ⟨a, cap, rfl, fun k u hu => ?_⟩⟩, hlen, by omega⟩
  obtain ⟨i, j, hi, hj, rfl, hu'⟩ := hget L (fun c hc => (hlen c hc).1) k u hu
  rw [(hL i hi).2.2 j hj]
  exact hu'
end Go.Proofs.YtglgjakjhkdoaaaGreatDoor
