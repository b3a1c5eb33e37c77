/-
  The law NetDoes: the walk.
-/
import Derived.Test.YtipobpcafkhknaaNetZ
import Derived.Test.YtipobpcafkhknaaNetQ
namespace Go.Proofs.Ytipobpcafkhknaa
open Go.RowKit
set_option linter.unusedVariables false
set_option linter.unusedSimpArgs false

/-- both networks, alike, in memory of the law's own -/
def Both (W : World) (nb rb : Nat) (l : List G) (w : World) : Prop := ∃ F Fr, NetRep w nb l F ∧ RefRep w rb l Fr ∧ (∀ k ∈ F, k ∉ Fr) ∧ (∀ k ∈ F ++ Fr, W.heap.size ≤ k) ∧ Below W.heap.size W w
theorem Both.low {W w w' : World} {nb rb : Nat} {l : List G} (h : Both W nb rb l w) (hb : Below w.heap.size w w') : Both W nb rb l w' := by
  obtain ⟨F, Fr, h1, h2, h3, h4, h5⟩ := h
  exact ⟨F, Fr, h1.below hb, h2.below hb, h3, h4, h5.trans (hb.mono h5.size)⟩
theorem Both.base {W w : World} {nb rb : Nat} {l : List G} (h : Both W nb rb l w) : Below W.heap.size W w := by
  obtain ⟨F, Fr, h1, h2, h3, h4, h5⟩ := h
  exact h5
theorem Both.does {W w : World} {nb rb : Nat} {l : List G} (h : Both W nb rb l w) (hl : Good l) {kd to : Int} {xa : Option Addr} {b : List UInt8} {xc : Nat} {i a : Int} {x : UInt8} (hto : 0 ≤ to) (hx : Rd W (.slice xa b.length xc) 1 b.length (bcells b)) (hb : b.length ≤ 5000) :
    Calls Try.prog 16 #[.pointer (some ⟨nb, 0, none⟩), .pointer (some ⟨rb, 0, none⟩), opV kd to (.slice xa b.length xc) i a x.toNat] w fun e w' => e = .returned (.bool true) ∧ Both W nb rb (stepO l kd to b i a x) w' := by
  obtain ⟨F, Fr, h1, h2, h3, h4, h5⟩ := h
  refine (does_any nb rb F Fr l l kd to xa b xc i a x w h1 h2 h3 hl hl hto (hx.low h5) hb fun l1 l2 w' h => ?_).mono ?_
  · obtain ⟨F2, Fr2, _, _, _, hc⟩ := h
    exact hx.low (h5.trans (hc.below h5.size h4))
  · rintro e w' ⟨r, rfl, hr, F2, Fr2, g1, g2, g3, hc⟩
    rw [hr rfl]
    exact ⟨rfl, F2, Fr2, g1, g2, g3, hc.up h5.size h4, h5.trans (hc.below h5.size h4)⟩

def GramsOf (l : List G) (u : Value) (w : World) : Prop := RdGrams w u (l.map fun g => (g.to, g.b))
theorem GramsOf.mono (l : List G) (u : Value) (w w' : World) (hb : Below w.heap.size w w') (h : GramsOf l u w) : GramsOf l u w' := RdGrams.low h hb
theorem Both.grams {W w : World} {nb rb : Nat} {l : List G} (h : Both W nb rb l w) (hl : Good l) :
    Calls Try.prog 13 #[.pointer (some ⟨nb, 0, none⟩)] w fun e w' => ∃ u, e = .returned u ∧ GramsOf l u w' ∧ Below w.heap.size w w' := by
  obtain ⟨F, Fr, h1, _⟩ := h
  refine (net_grams nb l F w h1 hl.len fun g hg => (hl.each g hg).2.1).mono ?_
  rintro e wg ⟨vg, Lg, rfl, hIg, hkg, hfg, hbg⟩
  refine ⟨vg, rfl, ⟨Lg, hIg.rd, ?_⟩, hbg⟩
  rw [List.map_map]
  exact hkg
theorem Both.told {W w : World} {nb rb : Nat} {l : List G} (h : Both W nb rb l w) : ∃ a c, w.cell? ⟨rb, 0, none⟩ = some (.slice a l.length c) ∧ RdGrams w (.slice a l.length c) (l.map fun g => (g.to, g.b)) ∧ rb < w.heap.size := by
  obtain ⟨F, Fr, _, ⟨Lv, Bv, L, h2, _⟩, _⟩ := h
  obtain ⟨⟨a, c, rfl⟩, _, c0, _, _, _, hrb⟩ := h2.heads
  exact ⟨a, c, c0, ⟨L, h2.items.rd, by rw [List.map_map]; exact h2.key⟩, hrb⟩

def bentAt (l : List G) (i : Int) : Bool := match atG l i with | some g => g.bent | none => false
theorem Both.bentN {W w : World} {nb rb : Nat} {l : List G} (h : Both W nb rb l w) (hl : Good l) (i : Int) :
    Calls Try.prog 17 #[.pointer (some ⟨nb, 0, none⟩), .int .i64 i] w fun e w' => e = .returned (.bool (bentAt l i)) ∧ w = w' := by
  obtain ⟨F, Fr, h1, _⟩ := h
  unfold bentAt
  cases e : atG l i with
  | none => exact net_bent_none nb l F i w h1 hl.len (atG_none e)
  | some g =>
    obtain ⟨g1, g2⟩ := atG_some e
    have hlt := (List.getElem?_eq_some_iff.1 g2).1
    have := net_bent nb l F i w h1 hl.len g1 (by omega)
    rw [g2] at this
    exact this
theorem Both.bentR {W w : World} {nb rb : Nat} {l : List G} (h : Both W nb rb l w) (hl : Good l) (i : Int) :
    Calls Try.prog 18 #[.pointer (some ⟨rb, 0, none⟩), .int .i64 i] w fun e w' => e = .returned (.bool (bentAt l i)) ∧ w = w' := by
  obtain ⟨F, Fr, _, h1, _⟩ := h
  unfold bentAt
  cases e : atG l i with
  | none => exact ref_bent_no rb l Fr i w h1 hl.len (atG_none e)
  | some g =>
    obtain ⟨g1, g2⟩ := atG_some e
    exact ref_bent rb l Fr i w g h1 hl.len g1 g2 (hl.each g (List.mem_of_getElem? g2)).1

set_option maxRecDepth 100000 in
set_option maxHeartbeats 1600000 in
theorem law_does_known (v : Value) (L : List Item) (w : World) (hL : RdItems w 6 v L) (hop : ∀ t ∈ L, IsOp t) (hl : L.length ≤ 9223372036854775807) (hlb : ∀ t ∈ L, t.b.length ≤ 9223372036854775807) (hk : heavyB L = true) :
    Calls Try.prog 5 #[v] w fun e w' => e = .returned (.bool true) ∧ Below w.heap.size w w' := by
  have HL := hide hL; have HO := hide hop; have HB := hide hlb; have HH := hide hk
  clear hL hop hlb hk
  go_enter Try.func5, Try.ntmps5
  go_wp2_with fail
  refine (law_heavy v L _ HL.out HO.out hl HB.out).mono ?_
  rintro e w' ⟨rfl, rfl⟩
  rw [HH.out]
  go_wp2_with (go_at_call 8; refine (law_known _).mono ?_; rintro e w' ⟨rfl, hb⟩; have HBw := hide hb; clear hb)
  go_ret
  exact ⟨rfl, HBw.out⟩

theorem both_new {W w : World} (hb : Below W.heap.size W w) : Both W w.heap.size (w.heap.size + 1) [] ((w.alloc (.cells #[.slice none 0 0] 50)).alloc (.cells #[.slice none 0 0, .slice none 0 0] 46)) := by
  obtain ⟨F, hr, hf, hb1⟩ := net_new_at w
  have h2 := ref_new_rep (w.alloc (.cells #[.slice none 0 0] 50))
  simp only [World.size_alloc] at h2
  have hlt := hr.lt
  simp only [World.size_alloc] at hlt
  refine ⟨F, _, hr.alloc _, h2, fun k hk hm => ?_, fun k hk => ?_, (hb.trans (hb1.mono hb.size)).alloc (by have := hb.size; simp; omega) _⟩
  · have := hlt k hk; simp at hm; omega
  · have := hb.size
    rcases List.mem_append.1 hk with h | h
    · have := hf k h; omega
    · simp at h; omega

set_option maxRecDepth 100000 in
set_option maxHeartbeats 3200000 in
theorem law_does_goes (v : Value) (L : List Item) (W : World) (hL : RdItems W 6 v L) (hop : ∀ t ∈ L, IsOp t) (hl : L.length ≤ 9223372036854775807) (hlb : ∀ t ∈ L, t.b.length ≤ 9223372036854775807) (hh : heavyB L = false) :
    Calls Try.prog 5 #[v] W fun e w' => e = .returned (.bool true) ∧ Below W.heap.size W w' := by
  obtain ⟨av, cv, rfl⟩ := hL.row.head
  have h80 : L.length ≤ 80 := by simp [heavyB] at hh; omega
  have h50 : ∀ t ∈ L, t.b.length ≤ 5000 := by simp [heavyB] at hh; exact hh.2
  have HL := hide hL; have HO := hide hop; have HB := hide hlb; have HH := hide hh; have H50 := hide h50
  clear hL hop hlb hh h50
  go_enter Try.func5, Try.ntmps5
  go_wp2_with fail
  refine (law_heavy _ L _ HL.out HO.out hl HB.out).mono ?_
  rintro e w' ⟨rfl, rfl⟩
  rw [HH.out]
  go_wp2_with fail
  refine (law_known _).mono ?_
  rintro e w1 ⟨rfl, hb1⟩
  have hbo := both_new hb1
  have HN := hide hbo
  clear hbo hb1
  go_wp2_with fail
  refine (net_new _).mono ?_
  rintro e w2 ⟨rfl, rfl⟩
  go_wp2_with fail
  refine (ref_new _).mono ?_
  rintro e w2 ⟨rfl, rfl⟩
  simp only [World.size_alloc]
  obtain ⟨nb, hnb⟩ : ∃ nb, nb = w1.heap.size := ⟨_, rfl⟩
  obtain ⟨rb, hrb⟩ : ∃ rb, rb = w1.heap.size + 1 := ⟨_, rfl⟩
  rw [← hrb, ← hnb] at HN ⊢
  clear hrb hnb
  generalize (w1.alloc (.cells #[.slice none 0 0] 50)).alloc (.cells #[.slice none 0 0, .slice none 0 0] 46) = w2 at *
  clear w1
  go_wp2
  go_loopw [5] (fun i wr => ∃ (k : Nat) (l : List G), k ≤ L.length ∧ i = .int .i64 k ∧ l.length ≤ k ∧ Hid (Both W nb rb l wr ∧ Good l)) (fun i _ => L.length - (intOf i).toNat)
  case atStart => exact ⟨0, [], Nat.zero_le _, rfl, by simp, HN.out, by simp, fun g h => by cases h⟩
  case round =>
    obtain ⟨k, l, hk, rfl, hrl, hN⟩ := hrel
    by_cases hlt : k < L.length
    · have hg : L[k]? = some L[k] := List.getElem?_eq_getElem hlt
      obtain ⟨t, ht⟩ : ∃ t, t = L[k] := ⟨_, rfl⟩
      rw [← ht] at hg
      have hm := List.mem_of_getElem? hg
      have hLr := HL.out.low hN.out.1.base
      obtain ⟨bb, off, c, k', to', i', at_, x, ax, cx, hv, hx, _, _, p1, p2, p3, p4, _, _, _, _, x0, x1, q0, q1, q2, q3, q4, q5, hrd, hbb⟩ := opCells hLr (HO.out t hm) hg
      obtain ⟨_, _, _, _, _, _, _, _, _, _, hv2, hx2, _, _, _, _, _, _, _, _, _, _, _, _, _, _, _, _, _, _, hrdW, _⟩ := opCells HL.out (HO.out t hm) hg
      rw [hx] at hx2
      simp only [Value.slice.injEq, true_and] at hv hx2
      obtain ⟨rfl, rfl⟩ := hv
      obtain ⟨rfl, rfl⟩ := hx2
      clear hv2
      obtain ⟨y, rfl⟩ : ∃ y : UInt8, x = (y.toNat : Int) := ⟨UInt8.ofNat x.toNat, by rw [UInt8.toNat_ofNat']; omega⟩
      have ht5 := H50.out t hm
      have HRD := hide hrdW
      have i1 : (0 : Int) ≤ (k : Int) := by omega
      have i2 : (k : Int) < (L.length : Int) := by omega
      clear hrd hrdW hLr hx hg ht hm
      go_wp2_with fail
      refine (hN.out.1.does hN.out.2 (kd := k') (to := to') (xa := ax) (b := t.b) (xc := cx) (i := i') (a := at_) (x := y) p3 HRD.out ht5).mono ?_
      rintro e w3 ⟨rfl, hB⟩
      obtain ⟨hgd, hgl⟩ := stepO_good (l := l) (kd := k') (to := to') (b := t.b) (i := i') (a := at_) (x := y) hN.out.2 p3
      generalize stepO l k' to' t.b i' at_ y = l2 at hB hgd hgl
      have hl2 : l2.length ≤ k + 1 := by omega
      have HB2 := hide hB; have HGD := hide hgd
      clear hB hgd hgl hN q0 q1 q2 q3 q4 q5 HRD
      obtain ⟨a2, c2, hc0, hrg, hrbl⟩ := HB2.out.told
      have s0 : ∀ w', Below w3.heap.size w3 w' → w'.cell? ⟨rb, 0, none⟩ = some (.slice a2 l2.length c2) := fun w' h => (h.cell (p := ⟨rb, 0, none⟩) hrbl).trans hc0
      have HRG := hide hrg
      clear hc0 hrg
      go_wp2_with fail
      refine wp_region_new 12 60 (by kernel_rfl) (by kernel_rfl) rfl (by kernel_rfl) (fun w' => Below w3.heap.size w3 w') (Below.refl _ _) (fun w w' h1 h2 => h2.trans (h1.mono h2.size)) (fun h => h.drew) ?_
      simp only [List.take_succ_cons, List.take_zero, List.drop_succ_cons, List.drop_zero]
      iterate 4 (refine Hav.read (e := ?_) (fun v => by rfl) (fun v w' hS hF => ?_) ?_; rotate_left; (first | (go_simp; done) | (go_simp; with_reducible rfl)); go_simp)
      refine Hav.rel (GramsOf l2) (GramsOf.mono l2) (fun v w' hS hF => ⟨by rfl, ?_⟩) ?_
      · go_simp
        go_at_call 13
        refine ((HB2.out.low hS).grams HGD.out).mono ?_
        rintro e w'' ⟨u, rfl, h1, h2⟩
        first
          | (go_simp; done)
          | (go_simp; exact ⟨h1, h2⟩)
      go_simp
      iterate 4 (refine Hav.read (e := ?_) (fun v => by rfl) (fun v w' hS hF => ?_) ?_; rotate_left; (first | (go_simp; done) | (go_simp; with_reducible rfl)); go_simp)
      refine Hav.call (.bool true) (fun v => by rfl) (fun v w' hS hF => ?_) ?_
      · have hu := hF (4, GramsOf l2) (by simp) (by simp [isAfter, Region.binds])
        simp only at hu
        have HU := hide hu
        clear hF hu
        go_simp
        go_at_call 14
        refine (same_grams _ _ (l2.map fun g : G => (g.to, g.b)) w' HU.out (HRG.out.low hS) (by simp; omega) (fun g hg => by
          obtain ⟨q, hq, rfl⟩ := List.mem_map.1 hg
          obtain ⟨h1, h2, h3, h4⟩ := HGD.out.each q hq
          exact ⟨h3, by simp only; omega, by simp only; omega⟩)).mono ?_
        rintro e w'' ⟨rfl, h2⟩
        first
          | (go_simp; done)
          | (go_simp; exact h2)
      go_simp
      iterate 2 (refine Hav.read (e := ?_) (fun v => by rfl) (fun v w' hS hF => ?_) ?_; rotate_left; (first | (go_simp; done) | (go_simp; with_reducible rfl)); go_simp)
      refine Hav.fin (fun v w' hS hF => ?_)
      have HB3 := hide (HB2.out.low hS)
      clear hF hS s0 HRG HB2
      obtain ⟨wo, rfl⟩ : ∃ wo : World, wo = wr := ⟨_, rfl⟩
      go_wp2
      go_loopw [7] (fun i' wc => ∃ (j : Nat), j ≤ l2.length + 2 ∧ i' = .int .i64 ((j : Int) - 1) ∧ Hid (Both W nb rb l2 wc)) (fun i' _ => l2.length + 2 - (intOf i' + 1).toNat)
      case atStart => exact ⟨0, Nat.zero_le _, rfl, HB3⟩
      case round =>
        obtain ⟨j, hj, rfl, hB⟩ := hrel
        obtain ⟨a3, c3, hc0, _, _⟩ := hB.out.told
        by_cases hlj : j ≤ l2.length + 1
        · have j1 : ((j : Int) - 1) ≤ (l2.length : Int) := by omega
          go_wp2_with fail
          refine (hB.out.bentN HGD.out ((j : Int) - 1)).mono ?_
          rintro e w5 ⟨rfl, rfl⟩
          go_wp2_with fail
          refine (hB.out.bentR HGD.out ((j : Int) - 1)).mono ?_
          rintro e w5 ⟨rfl, rfl⟩
          go_wp2
          go_roundw
          case rel => exact ⟨j + 1, by omega, by go_num, hB⟩
          case measure => simp [intOf]; omega
        · have j1 : ¬ ((j : Int) - 1) ≤ (l2.length : Int) := by omega
          go_wp2
          go_roundw
          case rel => exact ⟨k + 1, l2, by omega, by go_num, hl2, hB.out, HGD.out⟩
          case measure => simp [intOf]; omega
    · go_wp2
      go_ret
      exact ⟨rfl, hN.out.1.base⟩
end Go.Proofs.Ytipobpcafkhknaa
