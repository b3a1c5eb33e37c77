/-
  A file system beside the document's; the laws' Same.
-/
import Derived.Test.YtcgkhocmlolknaaRfL
import Derived.Test.YtcgkhocmlolknaaFsXB
namespace Go.Proofs.Ytcgkhocmlolknaa
open Go.RowKit Go.Maps
set_option linter.unusedVariables false
set_option linter.unusedSimpArgs false

structure RfOwn (W w : World) (rb : Nat) (s : FsS) (G : List Nat) : Prop where
  rep : RfRep w rb s G
  up : ∀ k ∈ G, W.heap.size ≤ k
  low : Below W.heap.size W w
  ok : s.Ok
theorem RfOwn.step {W w w' : World} {rb : Nat} {s s' : FsS} {G : List Nat} (h : RfOwn W w rb s G) (ht : RfTo w rb G s' w') (ok : s'.Ok) : ∃ G', RfOwn W w' rb s' G' ∧ Chg G G' w w' := by
  obtain ⟨G', h1, h2⟩ := ht
  exact ⟨G', ⟨h1, h2.up h.low.size h.up, h.low.trans (h2.below h.low.size h.up), ok⟩, h2⟩
theorem RfOwn.then {W w w' : World} {rb : Nat} {s : FsS} {G : List Nat} (h : RfOwn W w rb s G) (hb : Below w.heap.size w w') : RfOwn W w' rb s G := ⟨h.rep.low hb, h.up, h.low.trans (hb.mono h.low.size), h.ok⟩
/-- both, beside one another -/
structure Pr (W w : World) (sb : Nat) (S : FsS) (F : List Nat) (rb : Nat) (R : FsS) (G : List Nat) : Prop where
  a : FsOwn W w sb S F
  b : RfOwn W w rb R G
  far : ∀ k ∈ F, k ∉ G
theorem Pr.then {W w w' : World} {sb rb : Nat} {S R : FsS} {F G : List Nat} (h : Pr W w sb S F rb R G) (hb : Below w.heap.size w w') : Pr W w' sb S F rb R G := ⟨h.a.then hb, h.b.then hb, h.far⟩
theorem Pr.stepA {W w w' : World} {sb rb : Nat} {S S' R : FsS} {F G : List Nat} (h : Pr W w sb S F rb R G) (ht : FsTo w sb F S' w') (ok : S'.Ok) : ∃ F', Pr W w' sb S' F' rb R G ∧ Chg F F' w w' := by
  obtain ⟨F', h1, h2⟩ := h.a.step ht ok
  refine ⟨F', ⟨h1, ⟨h.b.rep.chg h2 fun k hk hm => h.far k hm hk, h.b.up, h1.low, h.b.ok⟩, fun k hk hm => ?_⟩, h2⟩
  rcases h2.fresh k hk with h3 | h3
  · exact h.far k h3 hm
  · have := h.b.rep.lt k hm
    omega
theorem Pr.stepB {W w w' : World} {sb rb : Nat} {S R R' : FsS} {F G : List Nat} (h : Pr W w sb S F rb R G) (ht : RfTo w rb G R' w') (ok : R'.Ok) : ∃ G', Pr W w' sb S F rb R' G' ∧ Chg G G' w w' := by
  obtain ⟨G', h1, h2⟩ := h.b.step ht ok
  refine ⟨G', ⟨⟨h.a.rep.chg h2 fun k hk hm => h.far k hk hm, h.a.up, h1.low, h.a.ok⟩, h1, fun k hk hm => ?_⟩, h2⟩
  rcases h2.fresh k hm with h3 | h3
  · exact h.far k hk h3
  · have := h.a.rep.lt k hk
    omega

/-- what lies where inside Same's region -/
structure SmS (w : World) (X : List (Bs × Bs)) (D : Nat → Bool) (v : Nat → Value) (w' : World) : Prop where
  low : Below w.heap.size w w'
  p : D 1 = true → ∃ a c L, v 1 = .slice a X.length c ∧ FilesAt w.heap.size 35 w' (.slice a X.length c) L ∧ L.map ct = X
  q : D 3 = true → ∃ a c L, v 3 = .slice a X.length c ∧ FilesAt w.heap.size 35 w' (.slice a X.length c) L ∧ L.map ct = X
theorem SmS.to {w w' w'' : World} {X : List (Bs × Bs)} {D D' : Nat → Bool} {v : Nat → Value} (h : SmS w X D v w') (hb : Below w'.heap.size w' w'') (h1 : D' 1 = D 1) (h3 : D' 3 = D 3) : SmS w X D' v w'' := by
  refine ⟨h.low.trans (hb.mono h.low.size), fun e => ?_, fun e => ?_⟩
  · obtain ⟨a, c, L, e1, e2, e3⟩ := h.p (h1 ▸ e)
    exact ⟨a, c, L, e1, e2.low hb, e3⟩
  · obtain ⟨a, c, L, e1, e2, e3⟩ := h.q (h3 ▸ e)
    exact ⟨a, c, L, e1, e2.low hb, e3⟩
set_option maxRecDepth 100000 in
set_option maxHeartbeats 3200000 in
theorem law_Same (sb rb : Nat) (s : FsS) (F G : List Nat) (W w : World) (h : Pr W w sb s F rb s G) :
    Calls Try.prog 9 #[.pointer (some ⟨sb, 0, none⟩), .pointer (some ⟨rb, 0, none⟩)] w fun e w' => e = .returned (.int .i64 1) ∧ Below w.heap.size w w' := by
  have H := hide h
  obtain ⟨X, hX⟩ : ∃ X, X = fsFiles s := ⟨_, rfl⟩
  obtain ⟨n, hn⟩ : ∃ n, n = X.length := ⟨_, rfl⟩
  have hn8 : n ≤ 8 := by rw [hn, hX]; unfold fsFiles; rw [List.length_map]; exact h.a.ok.few
  have HX := hide hX; have HN := hide hn
  obtain ⟨pa, pc, hrc⟩ : ∃ pa pc, Hid (∀ w', Below w.heap.size w w' → w'.cell? ⟨rb, 2, none⟩ = some (.slice pa s.waits.length pc) ∧ w'.cell? ⟨rb, 5, none⟩ = some (.bool s.halted)) := by
    obtain ⟨fa, fc, pa, pc, lv, E, L, hi, _⟩ := h.b.rep
    refine ⟨pa, pc, hide fun w' hw => ?_⟩
    obtain ⟨c0, c1, c2, c3, c4, c5, _⟩ := rf_cells (hi.low hw).blk
    have e : L.length = s.waits.length := by rw [hi.waits, List.length_map]
    rw [e] at c2
    exact ⟨c2, c5⟩
  have hwl := h.a.ok.waits_le
  have e1 : ((s.used : Int) == (s.used : Int)) = true := by simp
  have e2 : ((s.waits.length : Int) == (s.waits.length : Int)) = true := by simp
  have e3 : (s.halted == s.halted) = true := by simp
  clear h hX hn
  go_enter Try.func9, Try.ntmps9
  go_wp2_with fail
  refine wp_region_three 32 38 (by kernel_rfl) (by kernel_rfl) rfl (by kernel_rfl) (fun D v w' => SmS w X D v w') (fun _ => undef) ⟨(Below.refl _ _).drew, (fun h => by cases h), (fun h => by cases h)⟩ ?_
  simp only [List.take_succ_cons, List.take_zero, List.drop_succ_cons, List.drop_zero]
  iterate 1 (refine Hav3.read (e := ?_) (fun v => by rfl) (fun D v w h => ⟨h.low, h.p, h.q⟩) (fun D v w' hD hS => ?_) ?_; rotate_left; (skip; clear hS hD; first | (go_simp; done) | (go_simp; with_reducible rfl)); go_simp)
  refine Hav3.rel (fun v => by rfl) (fun D v w' hD hS => ?_) ?_
  · have HS := hide hS
    have d1 := hide hD.self
    clear hS hD
    go_simp
    go_at_call 26
    refine (law_Files sb s F _ (H.out.a.rep.low HS.out.low) H.out.a.ok).mono ?_
    rintro e w'' ⟨a, c, L, rfl, hf, hct, hb⟩
    rw [← HX.out] at hf ⊢
    have hs := HS.out.low.size
    have h3 := HS.out.to hb (D' := D) rfl rfl
    exact ⟨h3.low, fun _ => ⟨a, c, L, rfl, hf.base hs, by rw [HX.out]; exact hct⟩, h3.q⟩
  go_simp
  iterate 1 (refine Hav3.read (e := ?_) (fun v => by rfl) (fun D v w h => ⟨h.low, h.p, h.q⟩) (fun D v w' hD hS => ?_) ?_; rotate_left; (skip; clear hS hD; first | (go_simp; done) | (go_simp; with_reducible rfl)); go_simp)
  refine Hav3.rel (fun v => by rfl) (fun D v w' hD hS => ?_) ?_
  · have HS := hide hS
    clear hS hD
    go_simp
    go_at_call 27
    refine (rf_Files rb s G _ (H.out.b.rep.low HS.out.low) H.out.b.ok).mono ?_
    rintro e w'' ⟨a, c, L, rfl, hf, hct, hb⟩
    rw [← HX.out] at hf ⊢
    have hs := HS.out.low.size
    have h3 := HS.out.to hb (D' := D) rfl rfl
    exact ⟨h3.low, h3.p, fun _ => ⟨a, c, L, rfl, hf.base hs, by rw [HX.out]; exact hct⟩⟩
  go_simp
  refine Hav3.call (.bool true) (fun v => by rfl) (fun D v w' hD hS => ?_) ?_
  · have d1 : D 1 = true := hD.pre 1 (by kernel_rfl)
    have d3 : D 3 = true := hD.pre 3 (by kernel_rfl)
    obtain ⟨a, c, L, e1, hf1, hc1⟩ := hS.p d1
    obtain ⟨a2, c2, L2, e2, hf2, hc2⟩ := hS.q d3
    have HS := hide hS
    have HF1 := hide hf1; have HF2 := hide hf2; have HC1 := hide hc1; have HC2 := hide hc2
    clear hS hD hf1 hf2 hc1 hc2
    go_simp
    go_at_call 25
    have hl1 : X.length = L.length := by have := congrArg List.length HC1.out; rw [List.length_map] at this; exact this.symm
    have hl2 : X.length = L2.length := by have := congrArg List.length HC2.out; rw [List.length_map] at this; exact this.symm
    have hx8 : X.length ≤ 8 := by have := HN.out; omega
    refine (ref_SameFiles _ _ a a2 X.length c X.length c2 L L2 w' HF1.out hl1 HF2.out hl2 (by omega) (by omega)).mono ?_
    rintro e w'' ⟨rfl, hb⟩
    rw [HC1.out, HC2.out]
    exact ⟨by simp, HS.out.to hb rfl rfl⟩
  go_simp
  iterate 2 (refine Hav3.read (e := ?_) (fun v => by rfl) (fun D v w h => ⟨h.low, h.p, h.q⟩) (fun D v w' hD hS => ?_) ?_; rotate_left; (skip; clear hS hD; first | (go_simp; done) | (go_simp; with_reducible rfl)); go_simp)
  refine Hav3.call (.int .i64 s.used) (fun v => by rfl) (fun D v w' hD hS => ?_) ?_
  · have HS := hide hS
    clear hS hD
    go_simp
    go_at_call 18
    refine (fs_Used sb s F _ (H.out.a.rep.low HS.out.low) H.out.a.ok).mono ?_
    rintro e w'' ⟨rfl, hb⟩
    exact ⟨rfl, HS.out.to hb rfl rfl⟩
  go_simp
  iterate 1 (refine Hav3.read (e := ?_) (fun v => by rfl) (fun D v w h => ⟨h.low, h.p, h.q⟩) (fun D v w' hD hS => ?_) ?_; rotate_left; (skip; clear hS hD; first | (go_simp; done) | (go_simp; with_reducible rfl)); go_simp)
  refine Hav3.call (.int .i64 s.used) (fun v => by rfl) (fun D v w' hD hS => ?_) ?_
  · have HS := hide hS
    clear hS hD
    go_simp
    go_at_call 24
    refine (rf_Used rb s G _ (H.out.b.rep.low HS.out.low) H.out.b.ok).mono ?_
    rintro e w'' ⟨rfl, hb⟩
    exact ⟨rfl, HS.out.to hb rfl rfl⟩
  go_simp
  iterate 4 (refine Hav3.read (e := ?_) (fun v => by rfl) (fun D v w h => ⟨h.low, h.p, h.q⟩) (fun D v w' hD hS => ?_) ?_; rotate_left; (skip; clear hS hD; first | (go_simp; done) | (go_simp; with_reducible rfl)); go_simp)
  refine Hav3.call (.int .i64 s.waits.length) (fun v => by rfl) (fun D v w' hD hS => ?_) ?_
  · have HS := hide hS
    clear hS hD
    go_simp
    go_at_call 28
    refine (fs_Waits sb s F _ (H.out.a.rep.low HS.out.low)).mono ?_
    rintro e w'' ⟨rfl, rfl⟩
    exact ⟨rfl, HS.out.to (Below.refl _ _) rfl rfl⟩
  go_simp
  iterate 9 (refine Hav3.read (e := ?_) (fun v => by rfl) (fun D v w h => ⟨h.low, h.p, h.q⟩) (fun D v w' hD hS => ?_) ?_; rotate_left; (obtain ⟨c2, c5⟩ := hrc.out w' hS.low; clear hS hD; first | (go_simp; done) | (go_simp; with_reducible rfl)); go_simp)
  refine Hav3.call (.bool s.halted) (fun v => by rfl) (fun D v w' hD hS => ?_) ?_
  · have HS := hide hS
    clear hS hD
    go_simp
    go_at_call 29
    refine (fs_Halted sb s F _ (H.out.a.rep.low HS.out.low)).mono ?_
    rintro e w'' ⟨rfl, rfl⟩
    exact ⟨rfl, HS.out.to (Below.refl _ _) rfl rfl⟩
  go_simp
  iterate 3 (refine Hav3.read (e := ?_) (fun v => by rfl) (fun D v w h => ⟨h.low, h.p, h.q⟩) (fun D v w' hD hS => ?_) ?_; rotate_left; (skip; clear hS hD; first | (go_simp; done) | (go_simp; with_reducible rfl)); go_simp)
  iterate 4 (refine Hav3.read (e := ?_) (fun v => by rfl) (fun D v w h => ⟨h.low, h.p, h.q⟩) (fun D v w' hD hS => ?_) ?_; rotate_left; (obtain ⟨c2, c5⟩ := hrc.out w' hS.low; clear hS hD; first | (go_simp; done) | (go_simp; with_reducible rfl)); go_simp)
  refine Hav3.fin (fun v w' hS => ?_)
  have HS := hide hS.low
  clear hS
  go_wp2
  go_ret
  exact ⟨rfl, HS.out⟩
end Go.Proofs.Ytcgkhocmlolknaa
