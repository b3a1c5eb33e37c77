/-
A file system beside the document's; the laws' Same.
A file system and the document's, beside one another: under way.
The document's journals: is there a file, Append, Sync.
-/
import Derived.Test.YtglgjakjhkdoaaaGreatDoorZRfL
import Derived.Test.YtglgjakjhkdoaaaGreatDoorZFsNAFsPRfMFsXC
import Derived.Test.YtglgjakjhkdoaaaGreatDoorZFsS
import Derived.Test.YtglgjakjhkdoaaaGreatDoorZTaK
namespace Go.Proofs.YtglgjakjhkdoaaaGreatDoor
open Go.RowKit Go.Maps
set_option linter.unusedVariables false
set_option linter.unusedSimpArgs false

structure RfOwn (W w : World) (rb : Nat) (s : FsS) (G : List Nat) : Prop where
  rep : RfRep w rb s G
  up : ∀ k ∈ G, W.heap.size ≤ k
  low : Below W.heap.size W w
  ok : s.Ok
theorem RfOwn.step {W w w' : World} {rb : Nat} {s s' : FsS} {G : List Nat} (h : RfOwn W w rb s G) (ht : RfTo w rb G s' w') (ok : s'.Ok) : ∃ G', RfOwn W w' rb s' G' ∧ Chg G G' w w' := by
  obtain ⟨G', h1, h2⟩ := ht
  exact ⟨G', ⟨h1, h2.up h.low.size h.up, h.low.trans (h2.below h.low.size h.up), ok⟩, h2⟩
theorem RfOwn.then {W w w' : World} {rb : Nat} {s : FsS} {G : List Nat} (h : RfOwn W w rb s G) (hb : Below w.heap.size w w') : RfOwn W w' rb s G := ⟨h.rep.low hb, h.up, h.low.trans (hb.mono h.low.size), h.ok⟩
structure Pr (W w : World) (sb : Nat) (S : FsS) (F : List Nat) (rb : Nat) (R : FsS) (G : List Nat) : Prop where
  a : FsOwn W w sb S F
  b : RfOwn W w rb R G
  far : ∀ k ∈ F, k ∉ G
theorem Pr.then {W w w' : World} {sb rb : Nat} {S R : FsS} {F G : List Nat} (h : Pr W w sb S F rb R G) (hb : Below w.heap.size w w') : Pr W w' sb S F rb R G := ⟨h.a.then hb, h.b.then hb, h.far⟩
theorem Pr.stepA {W w w' : World} {sb rb : Nat} {S S' R : FsS} {F G : List Nat} (h : Pr W w sb S F rb R G) (ht : FsTo w sb F S' w') (ok : S'.Ok) : ∃ F', Pr W w' sb S' F' rb R G ∧ Chg F F' w w' := by
  obtain ⟨F', h1, h2⟩ := h.a.step ht ok
  refine ⟨F', ⟨h1, ⟨h.b.rep.chg h2 fun k hk hm => h.far k hm hk, h.b.up, h1.low, h.b.ok⟩, fun k hk hm => ?_⟩, h2⟩
  rcases h2.fresh k hk with h3 | h3
  · exact h.far k h3 hm
  · have := h.b.rep.lt k hm
    omega
theorem Pr.stepB {W w w' : World} {sb rb : Nat} {S R R' : FsS} {F G : List Nat} (h : Pr W w sb S F rb R G) (ht : RfTo w rb G R' w') (ok : R'.Ok) : ∃ G', Pr W w' sb S F rb R' G' ∧ Chg G G' w w' := by
  obtain ⟨G', h1, h2⟩ := h.b.step ht ok
  refine ⟨G', ⟨⟨h.a.rep.chg h2 fun k hk hm => h.far k hk hm, h.a.up, h1.low, h.a.ok⟩, h1, fun k hk hm => ?_⟩, h2⟩
  rcases h2.fresh k hm with h3 | h3
  · exact h.far k hk h3
  · have := h.a.rep.lt k hk
    omega

structure SmS (w : World) (X : List (Bs × Bs)) (D : Nat → Bool) (v : Nat → Value) (w' : World) : Prop where
  low : Below w.heap.size w w'
  p : D 1 = true → ∃ a c L, v 1 = .slice a X.length c ∧ FilesAt w.heap.size 72 w' (.slice a X.length c) L ∧ L.map ct = X
  q : D 3 = true → ∃ a c L, v 3 = .slice a X.length c ∧ FilesAt w.heap.size 72 w' (.slice a X.length c) L ∧ L.map ct = X
theorem SmS.to {w w' w'' : World} {X : List (Bs × Bs)} {D D' : Nat → Bool} {v : Nat → Value} (h : SmS w X D v w') (hb : Below w'.heap.size w' w'') (h1 : D' 1 = D 1) (h3 : D' 3 = D 3) : SmS w X D' v w'' := by
  refine ⟨h.low.trans (hb.mono h.low.size), fun e => ?_, fun e => ?_⟩
  · obtain ⟨a, c, L, e1, e2, e3⟩ := h.p (h1 ▸ e)
    exact ⟨a, c, L, e1, e2.low hb, e3⟩
  · obtain ⟨a, c, L, e1, e2, e3⟩ := h.q (h3 ▸ e)
    exact ⟨a, c, L, e1, e2.low hb, e3⟩
set_option maxRecDepth 100000 in
set_option maxHeartbeats 3200000 in
theorem law_Same (sb rb : Nat) (s : FsS) (F G : List Nat) (W w : World) (h : Pr W w sb s F rb s G) :
    Calls Tryz.prog 14 #[.pointer (some ⟨sb, 0, none⟩), .pointer (some ⟨rb, 0, none⟩)] w fun e w' => e = .returned (.int .i64 1) ∧ Below w.heap.size w w' := by
  have H := hide h
  obtain ⟨X, hX⟩ : ∃ X, X = fsFiles s := ⟨_, rfl⟩
  obtain ⟨n, hn⟩ : ∃ n, n = X.length := ⟨_, rfl⟩
  have hn8 : n ≤ 8 := by rw [hn, hX]; unfold fsFiles; rw [List.length_map]; exact h.a.ok.few
  have HX := hide hX; have HN := hide hn
  obtain ⟨pa, pc, hrc⟩ : ∃ pa pc, Hid (∀ w', Below w.heap.size w w' → w'.cell? ⟨rb, 2, none⟩ = some (.slice pa s.waits.length pc) ∧ w'.cell? ⟨rb, 5, none⟩ = some (.bool s.halted)) := by
    obtain ⟨fa, fc, pa, pc, lv, E, L, hi, _⟩ := h.b.rep
    refine ⟨pa, pc, hide fun w' hw => ?_⟩
    obtain ⟨c0, c1, c2, c3, c4, c5, _⟩ := rf_cells (hi.low hw).blk
    have e : L.length = s.waits.length := by rw [hi.waits, List.length_map]
    rw [e] at c2
    exact ⟨c2, c5⟩
  have hwl := h.a.ok.waits_le
  have e1 : ((s.used : Int) == (s.used : Int)) = true := by simp
  have e2 : ((s.waits.length : Int) == (s.waits.length : Int)) = true := by simp
  have e3 : (s.halted == s.halted) = true := by simp
  clear h hX hn
  go_enter Tryz.func14, Tryz.ntmps14
  go_wp2_with fail
  refine wp_region_three 32 38 (by kernel_rfl) (by kernel_rfl) rfl (by kernel_rfl) (fun D v w' => SmS w X D v w') (fun _ => undef) ⟨(Below.refl _ _).drew, (fun h => by cases h), (fun h => by cases h)⟩ ?_
  simp only [List.take_succ_cons, List.take_zero, List.drop_succ_cons, List.drop_zero]
  iterate 1 (refine Hav3.read (e := ?_) (fun v => by rfl) (fun D v w h => ⟨h.low, h.p, h.q⟩) (fun D v w' hD hS => ?_) ?_; rotate_left; (skip; clear hS hD; first | (go_simp; done) | (go_simp; with_reducible rfl)); go_simp)
  refine Hav3.rel (fun v => by rfl) (fun D v w' hD hS => ?_) ?_
  · have HS := hide hS
    have d1 := hide hD.self
    clear hS hD
    go_simp
    go_at_call 40
    refine (law_Files sb s F _ (H.out.a.rep.low HS.out.low) H.out.a.ok).mono ?_
    rintro e w'' ⟨a, c, L, rfl, hf, hct, hb⟩
    rw [← HX.out] at hf ⊢
    have hs := HS.out.low.size
    have h3 := HS.out.to hb (D' := D) rfl rfl
    exact ⟨h3.low, fun _ => ⟨a, c, L, rfl, hf.base hs, by rw [HX.out]; exact hct⟩, h3.q⟩
  go_simp
  iterate 1 (refine Hav3.read (e := ?_) (fun v => by rfl) (fun D v w h => ⟨h.low, h.p, h.q⟩) (fun D v w' hD hS => ?_) ?_; rotate_left; (skip; clear hS hD; first | (go_simp; done) | (go_simp; with_reducible rfl)); go_simp)
  refine Hav3.rel (fun v => by rfl) (fun D v w' hD hS => ?_) ?_
  · have HS := hide hS
    clear hS hD
    go_simp
    go_at_call 41
    refine (rf_Files rb s G _ (H.out.b.rep.low HS.out.low) H.out.b.ok).mono ?_
    rintro e w'' ⟨a, c, L, rfl, hf, hct, hb⟩
    rw [← HX.out] at hf ⊢
    have hs := HS.out.low.size
    have h3 := HS.out.to hb (D' := D) rfl rfl
    exact ⟨h3.low, h3.p, fun _ => ⟨a, c, L, rfl, hf.base hs, by rw [HX.out]; exact hct⟩⟩
  go_simp
  refine Hav3.call (.bool true) (fun v => by rfl) (fun D v w' hD hS => ?_) ?_
  · have d1 : D 1 = true := hD.pre 1 (by kernel_rfl)
    have d3 : D 3 = true := hD.pre 3 (by kernel_rfl)
    obtain ⟨a, c, L, e1, hf1, hc1⟩ := hS.p d1
    obtain ⟨a2, c2, L2, e2, hf2, hc2⟩ := hS.q d3
    have HS := hide hS
    have HF1 := hide hf1; have HF2 := hide hf2; have HC1 := hide hc1; have HC2 := hide hc2
    clear hS hD hf1 hf2 hc1 hc2
    go_simp
    go_at_call 39
    have hl1 : X.length = L.length := by have := congrArg List.length HC1.out; rw [List.length_map] at this; exact this.symm
    have hl2 : X.length = L2.length := by have := congrArg List.length HC2.out; rw [List.length_map] at this; exact this.symm
    have hx8 : X.length ≤ 8 := by have := HN.out; omega
    refine (ref_SameFiles _ _ a a2 X.length c X.length c2 L L2 w' HF1.out hl1 HF2.out hl2 (by omega) (by omega)).mono ?_
    rintro e w'' ⟨rfl, hb⟩
    rw [HC1.out, HC2.out]
    exact ⟨by simp, HS.out.to hb rfl rfl⟩
  go_simp
  iterate 2 (refine Hav3.read (e := ?_) (fun v => by rfl) (fun D v w h => ⟨h.low, h.p, h.q⟩) (fun D v w' hD hS => ?_) ?_; rotate_left; (skip; clear hS hD; first | (go_simp; done) | (go_simp; with_reducible rfl)); go_simp)
  refine Hav3.call (.int .i64 s.used) (fun v => by rfl) (fun D v w' hD hS => ?_) ?_
  · have HS := hide hS
    clear hS hD
    go_simp
    go_at_call 21
    refine (fs_Used sb s F _ (H.out.a.rep.low HS.out.low) H.out.a.ok).mono ?_
    rintro e w'' ⟨rfl, hb⟩
    exact ⟨rfl, HS.out.to hb rfl rfl⟩
  go_simp
  iterate 1 (refine Hav3.read (e := ?_) (fun v => by rfl) (fun D v w h => ⟨h.low, h.p, h.q⟩) (fun D v w' hD hS => ?_) ?_; rotate_left; (skip; clear hS hD; first | (go_simp; done) | (go_simp; with_reducible rfl)); go_simp)
  refine Hav3.call (.int .i64 s.used) (fun v => by rfl) (fun D v w' hD hS => ?_) ?_
  · have HS := hide hS
    clear hS hD
    go_simp
    go_at_call 27
    refine (rf_Used rb s G _ (H.out.b.rep.low HS.out.low) H.out.b.ok).mono ?_
    rintro e w'' ⟨rfl, hb⟩
    exact ⟨rfl, HS.out.to hb rfl rfl⟩
  go_simp
  iterate 4 (refine Hav3.read (e := ?_) (fun v => by rfl) (fun D v w h => ⟨h.low, h.p, h.q⟩) (fun D v w' hD hS => ?_) ?_; rotate_left; (skip; clear hS hD; first | (go_simp; done) | (go_simp; with_reducible rfl)); go_simp)
  refine Hav3.call (.int .i64 s.waits.length) (fun v => by rfl) (fun D v w' hD hS => ?_) ?_
  · have HS := hide hS
    clear hS hD
    go_simp
    go_at_call 42
    refine (fs_Waits sb s F _ (H.out.a.rep.low HS.out.low)).mono ?_
    rintro e w'' ⟨rfl, rfl⟩
    exact ⟨rfl, HS.out.to (Below.refl _ _) rfl rfl⟩
  go_simp
  iterate 9 (refine Hav3.read (e := ?_) (fun v => by rfl) (fun D v w h => ⟨h.low, h.p, h.q⟩) (fun D v w' hD hS => ?_) ?_; rotate_left; (obtain ⟨c2, c5⟩ := hrc.out w' hS.low; clear hS hD; first | (go_simp; done) | (go_simp; with_reducible rfl)); go_simp)
  refine Hav3.call (.bool s.halted) (fun v => by rfl) (fun D v w' hD hS => ?_) ?_
  · have HS := hide hS
    clear hS hD
    go_simp
    go_at_call 43
    refine (fs_Halted sb s F _ (H.out.a.rep.low HS.out.low)).mono ?_
    rintro e w'' ⟨rfl, rfl⟩
    exact ⟨rfl, HS.out.to (Below.refl _ _) rfl rfl⟩
  go_simp
  iterate 3 (refine Hav3.read (e := ?_) (fun v => by rfl) (fun D v w h => ⟨h.low, h.p, h.q⟩) (fun D v w' hD hS => ?_) ?_; rotate_left; (skip; clear hS hD; first | (go_simp; done) | (go_simp; with_reducible rfl)); go_simp)
  iterate 4 (refine Hav3.read (e := ?_) (fun v => by rfl) (fun D v w h => ⟨h.low, h.p, h.q⟩) (fun D v w' hD hS => ?_) ?_; rotate_left; (obtain ⟨c2, c5⟩ := hrc.out w' hS.low; clear hS hD; first | (go_simp; done) | (go_simp; with_reducible rfl)); go_simp)
  refine Hav3.fin (fun v w' hS => ?_)
  have HS := hide hS.low
  clear hS
  go_wp2
  go_ret
  exact ⟨rfl, HS.out⟩
end Go.Proofs.YtglgjakjhkdoaaaGreatDoor

namespace Go.Proofs.YtglgjakjhkdoaaaGreatDoor
open Go.RowKit Go.Maps
set_option linter.unusedVariables false
set_option linter.unusedSimpArgs false

def PrTo (W w1 : World) (F0 G0 : List Nat) (sb : Nat) (S : FsS) (rb : Nat) (R : FsS) (w' : World) : Prop := ∃ F G, Pr W w' sb S F rb R G ∧ Chg (F0 ++ G0) (F ++ G) w1 w'
theorem Chg.left {F F' : List Nat} {w w' : World} (h : Chg F F' w w') (G : List Nat) : Chg (F ++ G) (F' ++ G) w w' := ⟨h.os, h.tape, h.output, h.size, fun k hk hn => h.block k hk fun hm => hn (List.mem_append_left _ hm), fun k hk => by
  rcases List.mem_append.1 hk with hk | hk
  · exact (h.fresh k hk).imp (List.mem_append_left _) id
  · exact .inl (List.mem_append_right _ hk)⟩
theorem Chg.right {F F' : List Nat} {w w' : World} (h : Chg F F' w w') (G : List Nat) : Chg (G ++ F) (G ++ F') w w' := ⟨h.os, h.tape, h.output, h.size, fun k hk hn => h.block k hk fun hm => hn (List.mem_append_right _ hm), fun k hk => by
  rcases List.mem_append.1 hk with hk | hk
  · exact .inl (List.mem_append_left _ hk)
  · exact (h.fresh k hk).imp (List.mem_append_right _) id⟩
theorem PrTo.drew {W w1 w' : World} {F0 G0 : List Nat} {sb rb : Nat} {S R : FsS} (h : PrTo W w1 F0 G0 sb S rb R w') : PrTo W w1 F0 G0 sb S rb R w'.drew := by
  obtain ⟨F, G, h1, h2⟩ := h
  have hb : Below w'.heap.size w' w'.drew := (Below.refl _ _).drew
  exact ⟨F, G, h1.then hb, h2.trans (Chg.of_below hb)⟩
theorem PrTo.then {W w1 w' w'' : World} {F0 G0 : List Nat} {sb rb : Nat} {S R : FsS} (h : PrTo W w1 F0 G0 sb S rb R w') (hb : Below w'.heap.size w' w'') : PrTo W w1 F0 G0 sb S rb R w'' := by
  obtain ⟨F, G, h1, h2⟩ := h
  exact ⟨F, G, h1.then hb, h2.trans (Chg.of_below hb)⟩
theorem PrTo.stepA {W w1 w' w'' : World} {F0 G0 F G : List Nat} {sb rb : Nat} {S S' R : FsS} (h : Pr W w' sb S F rb R G) (hc : Chg (F0 ++ G0) (F ++ G) w1 w') (ht : FsTo w' sb F S' w'') (ok : S'.Ok) : PrTo W w1 F0 G0 sb S' rb R w'' := by
  obtain ⟨F', h1, h2⟩ := h.stepA ht ok
  exact ⟨F', G, h1, hc.trans (h2.left G)⟩
theorem PrTo.stepB {W w1 w' w'' : World} {F0 G0 F G : List Nat} {sb rb : Nat} {S R R' : FsS} (h : Pr W w' sb S F rb R G) (hc : Chg (F0 ++ G0) (F ++ G) w1 w') (ht : RfTo w' rb G R' w'') (ok : R'.Ok) : PrTo W w1 F0 G0 sb S rb R' w'' := by
  obtain ⟨G', h1, h2⟩ := h.stepB ht ok
  exact ⟨F, G', h1, hc.trans (h2.right F)⟩
theorem Pr.poke {W w1 w : World} {sb rb g : Nat} {S R : FsS} {F G X : List Nat} (h : Pr W w sb S F rb R G) (hc : Chg X (F ++ G) w1 w) (hg : w1.heap.size ≤ g) (hF : g ∉ F) (hG : g ∉ G) (j : Nat) (u : Value) (hW : W.heap.size ≤ g := by omega) :
    Pr W (w.setCell ⟨g, j, none⟩ u) sb S F rb R G ∧ Chg X (F ++ G) w1 (w.setCell ⟨g, j, none⟩ u) := by
  have hb : ∀ k, k ≠ g → (w.setCell ⟨g, j, none⟩ u).heap[k]? = w.heap[k]? := fun k hk => heap_set_ne hk
  have hlow : Below W.heap.size W (w.setCell ⟨g, j, none⟩ u) := h.a.low.setCell (by show W.heap.size ≤ g; exact hW) _
  have hch : Chg [g] [g] w (w.setCell ⟨g, j, none⟩ u) := ⟨rfl, rfl, rfl, by simp [World.setCell], fun k _ hk => hb k (by simpa using hk), fun k hk => .inl hk⟩
  refine ⟨⟨⟨h.a.rep.chg hch fun k hk hm => ?_, h.a.up, hlow, h.a.ok⟩, ⟨h.b.rep.chg hch fun k hk hm => ?_, h.b.up, hlow, h.b.ok⟩, h.far⟩, ⟨hc.os, hc.tape, hc.output, by simpa [World.setCell] using hc.size, fun k hk hn => (hb k (by omega)).trans (hc.block k hk hn), hc.fresh⟩⟩
  · rw [List.mem_singleton] at hm; subst hm; exact hF hk
  · rw [List.mem_singleton] at hm; subst hm; exact hG hk
end Go.Proofs.YtglgjakjhkdoaaaGreatDoor

namespace Go.Proofs.YtglgjakjhkdoaaaGreatDoor
open Go.RowKit Go.Maps
set_option linter.unusedVariables false
set_option linter.unusedSimpArgs false

def RtBlk (w : World) (ub rb : Nat) (k : Bs) : Prop := w.heap[ub]? = some (.cells #[.pointer (some ⟨rb, 0, none⟩), .string ⟨k.toArray⟩] 99 (0, 0))
theorem RtBlk.low {w w' : World} {ub rb : Nat} {k : Bs} (h : RtBlk w ub rb k) (hb : Below w.heap.size w w') : RtBlk w' ub rb k := (hb.block ub (Array.getElem?_eq_some_iff.1 h).1).trans h
theorem RtBlk.chg {w w' : World} {ub rb : Nat} {k : Bs} {F F' : List Nat} (h : RtBlk w ub rb k) (hc : Chg F F' w w') (hn : ub ∉ F) : RtBlk w' ub rb k := (hc.block ub (Array.getElem?_eq_some_iff.1 h).1 hn).trans h
theorem RtBlk.lt {w : World} {ub rb : Nat} {k : Bs} (h : RtBlk w ub rb k) : ub < w.heap.size := (Array.getElem?_eq_some_iff.1 h).1
theorem RtBlk.cells {w : World} {ub rb : Nat} {k : Bs} (h : RtBlk w ub rb k) : ∀ w', Below w.heap.size w w' → w'.cell? ⟨ub, 0, none⟩ = some (.pointer (some ⟨rb, 0, none⟩)) ∧ w'.cell? ⟨ub, 1, none⟩ = some (.string ⟨k.toArray⟩) := fun w' hw => by
  obtain ⟨c0, c1, _, hlt⟩ := two_cells h
  exact ⟨(hw.cell (p := ⟨ub, 0, none⟩) hlt).trans c0, (hw.cell (p := ⟨ub, 1, none⟩) hlt).trans c1⟩
theorem RfTo.trans {w w1 w2 : World} {rb : Nat} {F F1 : List Nat} {s : FsS} (h1 : Chg F F1 w w1) (h2 : RfTo w1 rb F1 s w2) : RfTo w rb F s w2 := by
  obtain ⟨F2, g1, g2⟩ := h2
  exact ⟨F2, g1, h1.trans g2⟩

set_option maxRecDepth 100000 in
set_option maxHeartbeats 800000 in
theorem rt_there (rb : Nat) (s : FsS) (G : List Nat) (k : Bs) (hk : k.length ≤ maxLen) (w : World) (h : RfRep w rb s G) (ok : s.Ok) : Calls Tryz.prog 50 #[.pointer (some ⟨rb, 0, none⟩), .string ⟨k.toArray⟩] w fun e w' => e = .returned (.bool (s.has k)) ∧ Below w.heap.size w w' := by
  have HR := hide (rf_Read rb s G k hk w h ok)
  obtain ⟨hb, hhb⟩ : ∃ hb, hb = s.has k := ⟨_, rfl⟩
  have HHB := hide hhb
  clear h ok
  cases hb with
  | true =>
    rw [← hhb]
    clear hhb
    go_enter Tryz.func50, Tryz.ntmps50
    go_wp2_with fail
    refine HR.out.mono ?_
    rintro e w2 hr
    unfold RfTold at hr
    rw [← HHB.out, if_pos rfl] at hr
    obtain ⟨ra, rn, rc, rfl, hfr⟩ := hr
    have HB := hide hfr.2.2
    clear hfr
    go_wp2
    go_ret
    exact ⟨rfl, HB.out⟩
  | false =>
    rw [← hhb]
    clear hhb
    go_enter Tryz.func50, Tryz.ntmps50
    go_wp2_with fail
    refine HR.out.mono ?_
    rintro e w2 hr
    unfold RfTold at hr
    rw [← HHB.out, if_neg (by simp)] at hr
    obtain ⟨rfl, hb⟩ := hr
    have HB := hide hb
    clear hb
    go_wp2
    go_ret
    exact ⟨rfl, HB.out⟩

set_option maxRecDepth 100000 in
set_option maxHeartbeats 1600000 in
theorem rt_Sync (ub rb : Nat) (s : FsS) (G : List Nat) (k : Bs) (hk : k.length ≤ maxLen) (w : World) (hB : RtBlk w ub rb k) (h : RfRep w rb s G) (ok : s.Ok) :
    Calls Tryz.prog 31 #[.pointer (some ⟨ub, 0, none⟩)] w fun e w' => e = .returned (.int .i64 (fsSync s k).1) ∧ RfTo w rb G (fsSync s k).2 w' := by
  have H := hide h
  have OK := hide ok
  have hcl := hide hB.cells
  clear h ok hB
  go_enter Tryz.func31, Tryz.ntmps31
  go_wp2_with fail
  refine wp_region_three 8 12 (by kernel_rfl) (by kernel_rfl) rfl (by kernel_rfl) (fun D v w' => Below w.heap.size w w') (fun _ => undef) (Below.refl _ _).drew ?_
  simp only [List.take_succ_cons, List.take_zero, List.drop_succ_cons, List.drop_zero]
  iterate 8 (refine Hav3.read (e := ?_) (fun v => by rfl) (fun D v w h => h) (fun D v w' hD hS => ?_) ?_; rotate_left; (obtain ⟨x0, x1⟩ := hcl.out w' hS; clear hS hD; first | (go_simp; done) | (go_simp; with_reducible rfl)); go_simp)
  refine Hav3.fin (fun v w5 hS => ?_)
  have HS5 := hide hS
  clear hS
  go_wp2_with fail
  refine (rf_Sync rb s G k hk w5 (H.out.low HS5.out) OK.out).mono ?_
  rintro e w6 ⟨rfl, ht⟩
  have HT := hide ht
  clear ht
  go_wp2
  go_ret
  exact ⟨rfl, RfTo.after HS5.out HT.out⟩

set_option maxRecDepth 100000 in
set_option maxHeartbeats 1600000 in
theorem rt_Append (ub rb : Nat) (s : FsS) (G : List Nat) (k : Bs) (hk : k.length ≤ maxLen) (a : Option Addr) (n c : Nat) (note : Bs) (w : World) (hB : RtBlk w ub rb k) (h : RfRep w rb s G) (ok : s.Ok) (hx : RdB w (.slice a n c) note) (hn : n = note.length) (hle : n ≤ c) (hc : c ≤ 9223372036854775807) (hlt : 0 < n → ∀ j, (Value.slice a n c).ownBlock = some j → j < w.heap.size) :
    Calls Tryz.prog 38 #[.pointer (some ⟨ub, 0, none⟩), .slice a n c] w fun e w' => e = .returned (.int .i64 (tpAppend s k note).1) ∧ RfTo w rb G (tpAppend s k note).2 w' := by
  have H := hide h
  have OK := hide ok
  have HX := hide hx
  have HN := hide hn
  have HLT := hide hlt
  have hcl := hide hB.cells
  clear h ok hB hx hlt
  by_cases hbig : 600 < n
  · have e : tpAppend s k note = (1, s) := by unfold tpAppend; rw [← hn, if_pos hbig]
    rw [e]
    have d1 : decide ((600 : Int) < n) = true := decide_eq_true (by omega)
    clear e hn
    go_enter Tryz.func38, Tryz.ntmps38
    go_wp2
    go_ret
    exact ⟨rfl, RfTo.refl H.out⟩
  · have e : tpAppend s k note = fsAppend s k (wrapW note) := by unfold tpAppend; rw [← hn, if_neg hbig]
    rw [e]
    have d1 : decide ((600 : Int) < n) = false := decide_eq_false (by omega)
    obtain ⟨X, hX⟩ : ∃ X, X = wrapW note := ⟨_, rfl⟩
    rw [← hX]
    have hXl : X.length ≤ 700 := by rw [hX]; have := wrap_length note; omega
    have HX2 := hide hX
    clear e hn hX
    go_enter Tryz.func38, Tryz.ntmps38
    go_wp2_with fail
    refine wp_region_three 10 19 (by kernel_rfl) (by kernel_rfl) rfl (by kernel_rfl) (fun D v w' => Below w.heap.size w w' ∧ (D 9 = true → ∃ a' c', v 9 = .slice a' X.length c' ∧ w'.ownsRow w.heap.size 5 1 (.slice a' X.length c') X.length (bcells X))) (fun _ => undef) ⟨(Below.refl _ _).drew, fun h => by cases h⟩ ?_
    simp only [List.take_succ_cons, List.take_zero, List.drop_succ_cons, List.drop_zero]
    iterate 9 (refine Hav3.read (e := ?_) (fun v => by rfl) (fun D v w h => h) (fun D v w' hD hS => ?_) ?_; rotate_left; (obtain ⟨x0, x1⟩ := hcl.out w' hS.1; clear hS hD; first | (go_simp; done) | (go_simp; with_reducible rfl)); go_simp)
    refine Hav3.rel (fun v => by rfl) (fun D v w' hD hS => ?_) ?_
    · have HS := hide hS.1
      clear hS hD
      go_simp
      go_at_call 62
      refine (ref_Wrap0 note a n c w' HN.out (HX.out.low HS.out) hle hc (by omega) (fun h0 j hj => Nat.lt_of_lt_of_le (HLT.out h0 j hj) HS.out.size)).mono ?_
      rintro e w'' ⟨a', n', c', rfl, hn', hown, hb, hsz⟩
      rw [← HX2.out] at hown hn'
      subst hn'
      exact ⟨HS.out.trans (hb.mono HS.out.size), fun _ => ⟨a', c', rfl, ownsRow_base hown HS.out.size⟩⟩
    go_simp
    refine Hav3.fin (fun v w5 hS => ?_)
    obtain ⟨a', c', hv9, hown⟩ := hS.2 rfl
    have HS5 := hide hS.1
    have HOWN := hide hown
    rw [hv9]
    obtain ⟨xn, hxn⟩ : ∃ xn, xn = X.length := ⟨_, rfl⟩
    rw [← hxn]
    have HXN := hide hxn
    have hxl : xn ≤ 700 := by omega
    clear hS hv9 hown hxn
    go_wp2_with fail
    refine (rf_Append rb s G k hk a' xn c' X w5 (H.out.low HS5.out) OK.out (by rw [HXN.out]; exact ownsRow_rd HOWN.out) HXN.out (by omega) (fun _ j hj hm => by have := (HOWN.out.lt j (by rw [← HXN.out]; exact hj)).1; have := H.out.lt j hm; omega)).mono ?_
    rintro e w6 ⟨rfl, ht⟩
    have HT := hide ht
    clear ht
    go_wp2
    go_ret
    obtain ⟨F', h1, h2⟩ := HT.out
    exact ⟨rfl, F', h1, (Chg.of_below HS5.out).trans h2⟩
end Go.Proofs.YtglgjakjhkdoaaaGreatDoor
