/-
  Two file systems beside one another with blocks that stay; the law's open of both journals.
-/
import Derived.Test.YtglgjakjhkdoaaaGreatDoorZTaU
import Derived.Test.YtglgjakjhkdoaaaGreatDoorZTaVTaVA
import Derived.Test.YtglgjakjhkdoaaaGreatDoorZReg3Reg4
namespace Go.Proofs.YtglgjakjhkdoaaaGreatDoor
open Go.RowKit Go.Maps
set_option linter.unusedVariables false
set_option linter.unusedSimpArgs false

structure Tw (W w : World) (sb : Nat) (S : FsS) (F : List Nat) (rb : Nat) (R : FsS) (G : List Nat) (X : List (Nat × Obj)) : Prop where
  pr : Pr W w sb S F rb R G
  kept : ∀ p ∈ X, w.heap[p.1]? = some p.2 ∧ p.1 ∉ F ∧ p.1 ∉ G ∧ W.heap.size ≤ p.1
theorem Tw.then {W w w' : World} {sb rb : Nat} {S R : FsS} {F G : List Nat} {X : List (Nat × Obj)} (h : Tw W w sb S F rb R G X) (hb : Below w.heap.size w w') : Tw W w' sb S F rb R G X :=
  ⟨h.pr.then hb, fun p hp => ⟨(hb.block p.1 (Array.getElem?_eq_some_iff.1 (h.kept p hp).1).1).trans (h.kept p hp).1, (h.kept p hp).2⟩⟩
theorem Tw.toA {W w w' : World} {sb rb : Nat} {S S' R : FsS} {F F' G : List Nat} {X : List (Nat × Obj)} (h : Tw W w sb S F rb R G X) (h1 : FsRep w' sb S' F') (h2 : Chg F F' w w') (ok : S'.Ok) : Tw W w' sb S' F' rb R G X := by
  have ha : FsOwn W w' sb S' F' := ⟨h1, h2.up h.pr.a.low.size h.pr.a.up, h.pr.a.low.trans (h2.below h.pr.a.low.size h.pr.a.up), ok⟩
  refine ⟨⟨ha, ⟨h.pr.b.rep.chg h2 fun k hk hm => h.pr.far k hm hk, h.pr.b.up, ha.low, h.pr.b.ok⟩, fun k hk hm => ?_⟩, fun p hp => ?_⟩
  · rcases h2.fresh k hk with h3 | h3
    · exact h.pr.far k h3 hm
    · have := h.pr.b.rep.lt k hm
      omega
  · obtain ⟨g1, g2, g3, g4⟩ := h.kept p hp
    have hlt := (Array.getElem?_eq_some_iff.1 g1).1
    refine ⟨(h2.block p.1 hlt g2).trans g1, fun hm => ?_, g3, g4⟩
    rcases h2.fresh _ hm with h3 | h3
    · exact g2 h3
    · omega
theorem Tw.toB {W w w' : World} {sb rb : Nat} {S R R' : FsS} {F G G' : List Nat} {X : List (Nat × Obj)} (h : Tw W w sb S F rb R G X) (h1 : RfRep w' rb R' G') (h2 : Chg G G' w w') (ok : R'.Ok) : Tw W w' sb S F rb R' G' X := by
  have hb : RfOwn W w' rb R' G' := ⟨h1, h2.up h.pr.b.low.size h.pr.b.up, h.pr.b.low.trans (h2.below h.pr.b.low.size h.pr.b.up), ok⟩
  refine ⟨⟨⟨h.pr.a.rep.chg h2 fun k hk hm => h.pr.far k hk hm, h.pr.a.up, hb.low, h.pr.a.ok⟩, hb, fun k hk hm => ?_⟩, fun p hp => ?_⟩
  · rcases h2.fresh k hm with h3 | h3
    · exact h.pr.far k hk h3
    · have := h.pr.a.rep.lt k hk
      omega
  · obtain ⟨g1, g2, g3, g4⟩ := h.kept p hp
    have hlt := (Array.getElem?_eq_some_iff.1 g1).1
    refine ⟨(h2.block p.1 hlt g3).trans g1, g2, fun hm => ?_, g4⟩
    rcases h2.fresh _ hm with h3 | h3
    · exact g3 h3
    · omega
theorem Tw.stepA {W w w' : World} {sb rb : Nat} {S S' R : FsS} {F G : List Nat} {X : List (Nat × Obj)} (h : Tw W w sb S F rb R G X) (ht : FsTo w sb F S' w') (ok : S'.Ok) : ∃ F', Tw W w' sb S' F' rb R G X := by
  obtain ⟨F', h1, h2⟩ := ht
  exact ⟨F', h.toA h1 h2 ok⟩
theorem Tw.stepB {W w w' : World} {sb rb : Nat} {S R R' : FsS} {F G : List Nat} {X : List (Nat × Obj)} (h : Tw W w sb S F rb R G X) (ht : RfTo w rb G R' w') (ok : R'.Ok) : ∃ G', Tw W w' sb S F rb R' G' X := by
  obtain ⟨G', h1, h2⟩ := ht
  exact ⟨G', h.toB h1 h2 ok⟩
theorem Tw.add {W w : World} {sb rb : Nat} {S R : FsS} {F G : List Nat} {X : List (Nat × Obj)} (h : Tw W w sb S F rb R G X) {b : Nat} {o : Obj} (hb : w.heap[b]? = some o) (hF : b ∉ F) (hG : b ∉ G) (hW : W.heap.size ≤ b) : Tw W w sb S F rb R G ((b, o) :: X) :=
  ⟨h.pr, fun p hp => by
    rcases List.mem_cons.1 hp with rfl | hp
    · exact ⟨hb, hF, hG, hW⟩
    · exact h.kept p hp⟩
theorem Tw.less {W w : World} {sb rb : Nat} {S R : FsS} {F G : List Nat} {X Y : List (Nat × Obj)} (h : Tw W w sb S F rb R G X) (hs : ∀ p ∈ Y, p ∈ X) : Tw W w sb S F rb R G Y := ⟨h.pr, fun p hp => h.kept p (hs p hp)⟩
theorem Tw.cell {W w : World} {sb rb : Nat} {S R : FsS} {F G : List Nat} {X : List (Nat × Obj)} (h : Tw W w sb S F rb R G X) {b : Nat} {cs : Array Value} {t : TypeId} (hm : (b, Obj.cells cs t (0, 0)) ∈ X) {j : Nat} {u : Value} (hu : cs[j]? = some u) : w.cell? ⟨b, j, none⟩ = some u := by
  rw [cell_of_row w b j cs t (0, 0) (h.kept _ hm).1]
  exact hu
theorem Tw.new {W w : World} {sb rb : Nat} {S R : FsS} {F G : List Nat} {X : List (Nat × Obj)} (h : Tw W w sb S F rb R G X) (o : Obj) : Tw W (w.alloc o) sb S F rb R G ((w.heap.size, o) :: X) :=
  (h.then (below_alloc w o)).add (heap_alloc_at w o) (fun hm => by have := h.pr.a.rep.lt _ hm; omega) (fun hm => by have := h.pr.b.rep.lt _ hm; omega) h.pr.a.low.size
theorem Tw.set {W w : World} {sb rb : Nat} {S R : FsS} {F G : List Nat} {X Y : List (Nat × Obj)} (h : Tw W w sb S F rb R G X) {b : Nat} {cs : Array Value} {t : TypeId} {z : Nat × Nat} (hm : (b, Obj.cells cs t z) ∈ X) (j : Nat) (u : Value)
    (hY : ∀ p ∈ Y, (p ∈ X ∧ p.1 ≠ b) ∨ p = (b, Obj.cells (cs.setIfInBounds j u) t z)) : Tw W (w.setCell ⟨b, j, none⟩ u) sb S F rb R G Y := by
  obtain ⟨g1, g2, g3, g4⟩ := h.kept _ hm
  have hch : ∀ H, Chg (b :: H) (b :: H) w (w.setCell ⟨b, j, none⟩ u) := fun H => ⟨rfl, rfl, rfl, by simp [World.setCell], fun k _ hk => heap_set_ne (by rintro rfl; exact hk (by simp)), fun k hk => .inl hk⟩
  have hlow : Below W.heap.size W (w.setCell ⟨b, j, none⟩ u) := h.pr.a.low.setCell (by show W.heap.size ≤ b; exact g4) _
  refine ⟨⟨⟨h.pr.a.rep.chg (hch []) fun k hk hm => ?_, h.pr.a.up, hlow, h.pr.a.ok⟩, ⟨h.pr.b.rep.chg (hch []) fun k hk hm => ?_, h.pr.b.up, hlow, h.pr.b.ok⟩, h.pr.far⟩, fun p hp => ?_⟩
  · rw [List.mem_singleton] at hm; subst hm; exact g2 hk
  · rw [List.mem_singleton] at hm; subst hm; exact g3 hk
  · rcases hY p hp with ⟨hx, hne⟩ | rfl
    · obtain ⟨k1, k2, k3, k4⟩ := h.kept p hx
      exact ⟨(heap_set_ne hne).trans k1, k2, k3, k4⟩
    · exact ⟨setCell_heap g1 j u, g2, g3, g4⟩

theorem five_cells {w : World} {b : Nat} {cs : Array Value} {t : TypeId} (h : w.heap[b]? = some (.cells cs t (0, 0))) : (∀ j, w.frozen? ⟨b, j, none⟩ = false) ∧ b < w.heap.size := by
  refine ⟨fun j => ?_, (Array.getElem?_eq_some_iff.1 h).1⟩
  simp [World.frozen?, h]
def twoO (sb rb : Nat) (tv uv : Value) (k : Bs) : Obj := .cells #[.pointer (some ⟨sb, 0, none⟩), .pointer (some ⟨rb, 0, none⟩), tv, uv, .string ⟨k.toArray⟩] 34 (0, 0)
def tpO (sb : Nat) (k : Bs) : Obj := .cells #[.pointer (some ⟨sb, 0, none⟩), .string ⟨k.toArray⟩] 87 (0, 0)
def rtO (rb : Nat) (k : Bs) : Obj := .cells #[.pointer (some ⟨rb, 0, none⟩), .string ⟨k.toArray⟩] 99 (0, 0)
def TwE (W w : World) (xb sb rb : Nat) (k : Bs) (tv : Value) : Prop := ∃ S F G, (tv = .pointer none ∧ Tw W w sb S F rb S G [(xb, twoO sb rb (.pointer none) (.pointer none) k)]) ∨
  ∃ tb ub, tv = .pointer (some ⟨tb, 0, none⟩) ∧ Tw W w sb S F rb S G [(xb, twoO sb rb (.pointer (some ⟨tb, 0, none⟩)) (.pointer (some ⟨ub, 0, none⟩)) k), (tb, tpO sb k), (ub, rtO rb k)]
theorem open_range (s : FsS) (k : Bs) : 0 ≤ (tpOpen s k).1 ∧ (tpOpen s k).1 ≤ 100 := by
  unfold tpOpen tpMade fsCreate
  repeat' split
  all_goals simp

def TwK (W w : World) (xb sb rb : Nat) (tv uv : Value) (k : Bs) : Prop := ∃ S F R G, Tw W w sb S F rb R G [(xb, twoO sb rb tv uv k)]
theorem TwK.cells {W w : World} {xb sb rb : Nat} {tv uv : Value} {k : Bs} (h : TwK W w xb sb rb tv uv k) : w.cell? ⟨xb, 0, none⟩ = some (.pointer (some ⟨sb, 0, none⟩)) ∧ w.cell? ⟨xb, 1, none⟩ = some (.pointer (some ⟨rb, 0, none⟩)) ∧ w.cell? ⟨xb, 2, none⟩ = some tv ∧ w.cell? ⟨xb, 3, none⟩ = some uv ∧ w.cell? ⟨xb, 4, none⟩ = some (.string ⟨k.toArray⟩) := by
  obtain ⟨S, F, R, G, h⟩ := h
  unfold twoO at h
  exact ⟨h.cell List.mem_cons_self rfl, h.cell List.mem_cons_self rfl, h.cell List.mem_cons_self rfl, h.cell List.mem_cons_self rfl, h.cell List.mem_cons_self rfl⟩
def TwT (W w : World) (xb sb rb : Nat) (tv uv : Value) (k : Bs) (Told : World → Ending → World → Prop) (d : Bool) (u : Value) (w' : World) : Prop :=
  TwK W w' xb sb rb tv uv k ∧ (d = false → Below w.heap.size w w') ∧ (d = true → ∃ w1, Below w.heap.size w w1 ∧ Told w1 (.returned u) w')

theorem notes_le {s : FsS} (ok : s.Ok) (k : Bs) : (tpOpen s k).2.2.length ≤ 1048576 := by
  unfold tpOpen
  split
  · simp
  · split
    · simp
    · have h1 := got_le (tpMade_ok (tpClear_ok ok k) k) k
      have h2 := (tpRead_le _ (tpGot (tpMade (tpClear s k) k).2 k) (Nat.le_refl _)).2.1
      show (tpRead (tpGot (tpMade (tpClear s k) k).2 k)).1.length ≤ _
      omega

set_option maxRecDepth 100000 in
set_option maxHeartbeats 3200000 in
theorem law_topen (xb sb rb : Nat) (s : FsS) (F G : List Nat) (k : Bs) (tv uv : Value) (W w : World) (h : Tw W w sb s F rb s G [(xb, twoO sb rb tv uv k)]) (hk : k.length ≤ 1000000) :
    Calls Tryz.prog 12 #[.pointer (some ⟨xb, 0, none⟩)] w fun e w' => e = .returned (.bool true) ∧ ∃ tv', TwE W w' xb sb rb k tv' := by
  have H := hide h
  have hkm : k.length ≤ maxLen := by unfold maxLen; omega
  obtain ⟨er, her⟩ : ∃ er, er = (tpOpen s k).1 := ⟨_, rfl⟩
  obtain ⟨S', hS'⟩ : ∃ S', S' = (tpOpen s k).2.1 := ⟨_, rfl⟩
  have hr := open_range s k
  rw [← her] at hr
  have hwe : IntKind.i64.wrap er = er := wrap64 (by omega) (by omega)
  have hee : (er == er) = true := by simp
  have HOK : Hid (S'.Ok) := hide (by rw [hS']; exact tpOpen_ok h.pr.a.ok k)
  have HER := hide her; have HSS := hide hS'
  have htup : Hid (∀ u w', TwT W w xb sb rb tv uv k (fun w1 => TpOpTold sb s k F w1) true u w' → ∃ a b c, u = .tuple #[a, b, c]) := hide fun u w' h => by
    obtain ⟨-, -, h⟩ := h
    obtain ⟨w1, -, h⟩ := h rfl
    obtain ⟨F', -, -, ⟨-, h⟩ | ⟨-, tb, a, cc, xs, h, -⟩⟩ := h
    · cases h; exact ⟨_, _, _, rfl⟩
    · cases h; exact ⟨_, _, _, rfl⟩
  clear h her hS' hr
  go_enter Tryz.func12, Tryz.ntmps12
  go_wp2_with fail
  refine wp_region_three 16 59 (by kernel_rfl) (by kernel_rfl) rfl (by kernel_rfl) (TupS 8 3 (TwT W w xb sb rb tv uv k (fun w1 => TpOpTold sb s k F w1))) (fun _ => undef) (TupS.start ⟨⟨_, _, _, _, H.out.then (Below.refl _ _).drew⟩, fun _ => (Below.refl _ _).drew, fun h => by cases h⟩) ?_
  simp only [List.take_succ_cons, List.take_zero, List.drop_succ_cons, List.drop_zero]
  iterate 8 (refine Hav3.read (e := ?_) (fun v => by rfl) (fun D v w h => h.read _ (by omega)) (fun D v w' hD hS => ?_) ?_; rotate_left; (obtain ⟨x0, x1, x2, x3, x4⟩ := hS.t.1.cells; clear hS hD; first | (go_simp; done) | (go_simp; with_reducible rfl)); go_simp)
  refine Hav3.rel (fun v => by rfl) (fun D v w' hD hS => ?_) ?_
  · have d8 : D 8 = false := hD.self
    have hb := hS.t.2.1 d8
    have H1 := hide (H.out.then hb)
    have HS := hide hS; have HB := hide hb; have HD8 := hide d8
    clear hS hD hb d8
    go_simp
    go_at_call 15
    refine (tp_Open sb s F k hkm w' H1.out.pr.a.rep H1.out.pr.a.ok).mono ?_
    rintro e w2 ht
    obtain ⟨u, rfl⟩ : ∃ u, e = .returned u := by
      obtain ⟨F', -, -, ⟨-, h⟩ | ⟨-, tb, a, cc, xs, h, -⟩⟩ := ht
      · exact ⟨_, h⟩
      · exact ⟨_, h⟩
    have hk2 : TwK W w2 xb sb rb tv uv k := by
      obtain ⟨F', h1, h2, -⟩ := ht
      exact ⟨_, _, _, _, H1.out.toA h1 h2 (tpOpen_ok H1.out.pr.a.ok k)⟩
    exact HS.out.called HD8.out ⟨hk2, (fun h => by cases h), fun _ => ⟨w', HB.out, ht⟩⟩
  go_simp
  refine Hav3.rel (fun v => by rfl) (fun D v w' hD hS => ?_) ?_; (focus (have dn := hD.pre 8 (by kernel_rfl); have hm := hide (hS.moved dn); clear hD hS dn; go_simp; first | exact hm.out | exact ⟨_, rfl, hm.out, trivial⟩)); go_simp; refine Hav3.rel (fun v => by rfl) (fun D v w' hD hS => ?_) ?_; (focus (have dn := hD.pre 9 (by kernel_rfl); obtain ⟨u0, u1, u2, hu⟩ := htup.out _ _ (by have h0 := hS.t; rw [(hS.mv dn).1] at h0; exact h0); have hm := hide (hS.ext 0 (by omega) dn (show compV _ _ = _ by rw [hu])); have hv := (hS.mv dn).2; rw [hu] at hv; clear hD hS dn; go_simp; first | exact hm.out | exact ⟨_, rfl, hm.out, trivial⟩)); go_simp; refine Hav3.rel (fun v => by rfl) (fun D v w' hD hS => ?_) ?_; (focus (have dn := hD.pre 9 (by kernel_rfl); obtain ⟨u0, u1, u2, hu⟩ := htup.out _ _ (by have h0 := hS.t; rw [(hS.mv dn).1] at h0; exact h0); have hm := hide (hS.ext 1 (by omega) dn (show compV _ _ = _ by rw [hu])); have hv := (hS.mv dn).2; rw [hu] at hv; clear hD hS dn; go_simp; first | exact hm.out | exact ⟨_, rfl, hm.out, trivial⟩)); go_simp; refine Hav3.rel (fun v => by rfl) (fun D v w' hD hS => ?_) ?_; (focus (have dn := hD.pre 9 (by kernel_rfl); obtain ⟨u0, u1, u2, hu⟩ := htup.out _ _ (by have h0 := hS.t; rw [(hS.mv dn).1] at h0; exact h0); have hm := hide (hS.ext 2 (by omega) dn (show compV _ _ = _ by rw [hu])); have hv := (hS.mv dn).2; rw [hu] at hv; clear hD hS dn; go_simp; first | exact hm.out | exact ⟨_, rfl, hm.out, trivial⟩)); go_simp; refine Hav3.rel (fun v => by rfl) (fun D v w' hD hS => ?_) ?_; (focus (have dn := hD.pre 10 (by kernel_rfl); have hm := hide (hS.asg 0 (by omega) dn); clear hD hS dn; go_simp; first | exact hm.out | exact ⟨_, rfl, hm.out, trivial⟩)); go_simp; refine Hav3.rel (fun v => by rfl) (fun D v w' hD hS => ?_) ?_; (focus (have dn := hD.pre 11 (by kernel_rfl); have hm := hide (hS.asg 1 (by omega) dn); clear hD hS dn; go_simp; first | exact hm.out | exact ⟨_, rfl, hm.out, trivial⟩)); go_simp; refine Hav3.rel (fun v => by rfl) (fun D v w' hD hS => ?_) ?_; (focus (have dn := hD.pre 12 (by kernel_rfl); have hm := hide (hS.asg 2 (by omega) dn); clear hD hS dn; go_simp; first | exact hm.out | exact ⟨_, rfl, hm.out, trivial⟩)); go_simp
  refine Hav3.fin (fun v w2 hS => ?_)
  have HSF := hide hS
  obtain ⟨-, -, ht⟩ := (TupS.fin rfl hS).1
  obtain ⟨w1, hb1, ht⟩ := ht rfl
  have H1 := hide (H.out.then hb1)
  unfold TpOpTold at ht
  rw [← HER.out, ← HSS.out] at ht
  obtain ⟨F2, hr2, hc2, hcase⟩ := ht
  have H2 := hide (H1.out.toA hr2 hc2 HOK.out)
  have HC2 := hide hc2
  have HTUP2 : Hid (∀ u w', TwT W w2 xb sb rb tv uv k (fun w1 => RtOpTold rb s k G w1) true u w' → ∃ a b c, u = .tuple #[a, b, c]) := hide fun u w' h => by
    obtain ⟨-, -, h⟩ := h
    obtain ⟨w1, -, h⟩ := h rfl
    obtain ⟨F', -, -, ⟨-, h⟩ | ⟨-, tb, a, cc, xs, h, -⟩⟩ := h
    · cases h; exact ⟨_, _, _, rfl⟩
    · cases h; exact ⟨_, _, _, rfl⟩
  clear hS hc2
  rcases hcase with ⟨hne, hv8⟩ | ⟨he0, tb, na, nc, xs, hv8, htb, htw, htF, hat, hxs, hfar⟩
  · have hv8 : v 8 = .tuple #[.pointer none, .slice none 0 0, .int .u16 er] := by injection hv8
    have hv := TupS.parts3 rfl HSF.out hv8
    simp only [Nat.reduceAdd] at hv
    obtain ⟨g9, g10, g11, g12, g13, g14, g15⟩ := hv
    rw [hv8, g9, g10, g11, g12, g13, g14, g15]
    clear hv8 g9 g10 g11 g12 g13 g14 g15 HSF
    go_wp2_with fail
    refine wp_region_three 16 59 (by kernel_rfl) (by kernel_rfl) rfl (by kernel_rfl) (TupS 8 3 (TwT W w2 xb sb rb tv uv k (fun w1 => RtOpTold rb s k G w1))) (fun _ => undef) (TupS.start ⟨⟨_, _, _, _, H2.out.then (Below.refl _ _).drew⟩, fun _ => (Below.refl _ _).drew, fun h => by cases h⟩) ?_
    simp only [List.take_succ_cons, List.take_zero, List.drop_succ_cons, List.drop_zero]
    iterate 8 (refine Hav3.read (e := ?_) (fun v => by rfl) (fun D v w h => h.read _ (by omega)) (fun D v w' hD hS => ?_) ?_; rotate_left; (obtain ⟨x0, x1, x2, x3, x4⟩ := hS.t.1.cells; clear hS hD; first | (go_simp; done) | (go_simp; with_reducible rfl)); go_simp)
    refine Hav3.rel (fun v => by rfl) (fun D v w' hD hS => ?_) ?_
    · have d8 : D 8 = false := hD.self
      have hb := hS.t.2.1 d8
      have H1 := hide (H2.out.then hb)
      have HS := hide hS; have HB := hide hb; have HD8 := hide d8
      clear hS hD hb d8
      go_simp
      go_at_call 28
      refine (rt_Open rb s G k hkm w' H1.out.pr.b.rep H1.out.pr.b.ok).mono ?_
      rintro e w2 ht
      obtain ⟨u, rfl⟩ : ∃ u, e = .returned u := by
        obtain ⟨F', -, -, ⟨-, h⟩ | ⟨-, tb, a, cc, xs, h, -⟩⟩ := ht
        · exact ⟨_, h⟩
        · exact ⟨_, h⟩
      have hk2 : TwK W w2 xb sb rb tv uv k := by
        obtain ⟨F', h1, h2, -⟩ := ht
        exact ⟨_, _, _, _, H1.out.toB h1 h2 (tpOpen_ok H1.out.pr.b.ok k)⟩
      exact HS.out.called HD8.out ⟨hk2, (fun h => by cases h), fun _ => ⟨w', HB.out, ht⟩⟩
    go_simp
    refine Hav3.rel (fun v => by rfl) (fun D v w' hD hS => ?_) ?_; (focus (have dn := hD.pre 8 (by kernel_rfl); have hm := hide (hS.moved dn); clear hD hS dn; go_simp; first | exact hm.out | exact ⟨_, rfl, hm.out, trivial⟩)); go_simp; refine Hav3.rel (fun v => by rfl) (fun D v w' hD hS => ?_) ?_; (focus (have dn := hD.pre 9 (by kernel_rfl); obtain ⟨u0, u1, u2, hu⟩ := HTUP2.out _ _ (by have h0 := hS.t; rw [(hS.mv dn).1] at h0; exact h0); have hm := hide (hS.ext 0 (by omega) dn (show compV _ _ = _ by rw [hu])); have hv := (hS.mv dn).2; rw [hu] at hv; clear hD hS dn; go_simp; first | exact hm.out | exact ⟨_, rfl, hm.out, trivial⟩)); go_simp; refine Hav3.rel (fun v => by rfl) (fun D v w' hD hS => ?_) ?_; (focus (have dn := hD.pre 9 (by kernel_rfl); obtain ⟨u0, u1, u2, hu⟩ := HTUP2.out _ _ (by have h0 := hS.t; rw [(hS.mv dn).1] at h0; exact h0); have hm := hide (hS.ext 1 (by omega) dn (show compV _ _ = _ by rw [hu])); have hv := (hS.mv dn).2; rw [hu] at hv; clear hD hS dn; go_simp; first | exact hm.out | exact ⟨_, rfl, hm.out, trivial⟩)); go_simp; refine Hav3.rel (fun v => by rfl) (fun D v w' hD hS => ?_) ?_; (focus (have dn := hD.pre 9 (by kernel_rfl); obtain ⟨u0, u1, u2, hu⟩ := HTUP2.out _ _ (by have h0 := hS.t; rw [(hS.mv dn).1] at h0; exact h0); have hm := hide (hS.ext 2 (by omega) dn (show compV _ _ = _ by rw [hu])); have hv := (hS.mv dn).2; rw [hu] at hv; clear hD hS dn; go_simp; first | exact hm.out | exact ⟨_, rfl, hm.out, trivial⟩)); go_simp; refine Hav3.rel (fun v => by rfl) (fun D v w' hD hS => ?_) ?_; (focus (have dn := hD.pre 10 (by kernel_rfl); have hm := hide (hS.asg 0 (by omega) dn); clear hD hS dn; go_simp; first | exact hm.out | exact ⟨_, rfl, hm.out, trivial⟩)); go_simp; refine Hav3.rel (fun v => by rfl) (fun D v w' hD hS => ?_) ?_; (focus (have dn := hD.pre 11 (by kernel_rfl); have hm := hide (hS.asg 1 (by omega) dn); clear hD hS dn; go_simp; first | exact hm.out | exact ⟨_, rfl, hm.out, trivial⟩)); go_simp; refine Hav3.rel (fun v => by rfl) (fun D v w' hD hS => ?_) ?_; (focus (have dn := hD.pre 12 (by kernel_rfl); have hm := hide (hS.asg 2 (by omega) dn); clear hD hS dn; go_simp; first | exact hm.out | exact ⟨_, rfl, hm.out, trivial⟩)); go_simp
    refine Hav3.fin (fun v w4 hS => ?_)
    have HSF := hide hS
    obtain ⟨-, -, ht⟩ := (TupS.fin rfl hS).1
    obtain ⟨w3, hb3, ht⟩ := ht rfl
    have H3 := hide (H2.out.then hb3)
    have HB3 := hide hb3
    unfold RtOpTold at ht
    rw [← HER.out, ← HSS.out] at ht
    obtain ⟨G4, hr4, hc4, hcase⟩ := ht
    have H4 := hide (H3.out.toB hr4 hc4 HOK.out)
    clear hS hb3
    rcases hcase with ⟨-, hv8⟩ | ⟨he0, -⟩
    case inr => exact absurd he0 hne
    have hv8 : v 8 = .tuple #[.pointer none, .slice none 0 0, .int .i64 er] := by injection hv8
    have hv := TupS.parts3 rfl HSF.out hv8
    simp only [Nat.reduceAdd] at hv
    obtain ⟨g9, g10, g11, g12, g13, g14, g15⟩ := hv
    rw [hv8, g9, g10, g11, g12, g13, g14, g15]
    clear hv8 g9 g10 g11 g12 g13 g14 g15 HSF hc4
    obtain ⟨x0, x1, x2, x3, x4⟩ := (show TwK W w4 xb sb rb tv uv k from ⟨_, _, _, _, H4.out⟩).cells
    have hfz : ∀ j, w4.frozen? ⟨xb, j, none⟩ = false := (five_cells (H4.out.kept (xb, twoO sb rb tv uv k) (by simp)).1).1
    have hlt : xb < w4.heap.size := (five_cells (H4.out.kept (xb, twoO sb rb tv uv k) (by simp)).1).2
    have hfin : Hid (Tw W ((w4.setCell ⟨xb, 2, none⟩ (.pointer none)).setCell ⟨xb, 3, none⟩ (.pointer none)) sb S' F2 rb S' G4 [(xb, twoO sb rb (.pointer none) (.pointer none) k)]) := hide (by
      have h1 := H4.out.set (Y := [(xb, twoO sb rb (.pointer none) uv k)]) (show (xb, twoO sb rb tv uv k) ∈ _ by simp) 2 (.pointer none) (fun p hp => .inr (by simpa [twoO] using hp))
      exact h1.set (show (xb, twoO sb rb (.pointer none) uv k) ∈ _ by simp) 3 (.pointer none) (fun p hp => .inr (by simpa [twoO] using hp)))
    clear hne
    go_wp2_with fail
    refine (ref_SameNotes none none 0 0 0 0 [] [] _ (RdNs.nil _).bs rfl (RdNs.nil _).bs rfl (by omega) (by omega)).mono ?_
    rintro e w6 ⟨rfl, hb6⟩
    have HB6 := hide hb6
    clear hb6
    go_wp2
    go_ret
    exact ⟨rfl, _, S', F2, G4, .inl ⟨rfl, hfin.out.then HB6.out⟩⟩
  · subst he0
    obtain ⟨m, hm⟩ : ∃ m, m = xs.length := ⟨_, rfl⟩
    rw [← hm] at hat hfar hv8
    obtain ⟨N, hN⟩ : ∃ N, N = (tpOpen s k).2.2 := ⟨_, rfl⟩
    rw [← hN] at hxs
    have HAT := hide hat; have HM := hide hm; have HXS := hide hxs; have HNN := hide hN
    have hGl : Hid (∀ j ∈ G, j < w1.heap.size) := hide H1.out.pr.b.rep.lt
    have hWl : W.heap.size ≤ w1.heap.size := H1.out.pr.a.low.size
    have hxl : Hid (xb < w1.heap.size) := hide (Array.getElem?_eq_some_iff.1 (H1.out.kept (xb, twoO sb rb tv uv k) (by simp)).1).1
    have H2T := hide (H2.out.add (b := tb) (o := tpO sb k) htb htF (fun hm => by have := hGl.out _ hm; omega) (by omega))
    have hF2l : Hid (∀ j ∈ F2, j < w2.heap.size) := hide H2.out.pr.a.rep.lt
    have HTW := hide htw
    have hs12 : w1.heap.size ≤ w2.heap.size := HC2.out.size
    have hv8 : v 8 = .tuple #[.pointer (some ⟨tb, 0, none⟩), .slice na m nc, .int .u16 0] := by injection hv8
    have hv := TupS.parts3 rfl HSF.out hv8
    simp only [Nat.reduceAdd] at hv
    obtain ⟨g9, g10, g11, g12, g13, g14, g15⟩ := hv
    rw [hv8, g9, g10, g11, g12, g13, g14, g15]
    clear hv8 g9 g10 g11 g12 g13 g14 g15 HSF hat hm hxs hN htb htw htF hfar
    go_wp2_with fail
    refine wp_region_three 16 59 (by kernel_rfl) (by kernel_rfl) rfl (by kernel_rfl) (TupS 8 3 (TwT W w2 xb sb rb tv uv k (fun w1 => RtOpTold rb s k G w1))) (fun _ => undef) (TupS.start ⟨⟨_, _, _, _, H2.out.then (Below.refl _ _).drew⟩, fun _ => (Below.refl _ _).drew, fun h => by cases h⟩) ?_
    simp only [List.take_succ_cons, List.take_zero, List.drop_succ_cons, List.drop_zero]
    iterate 8 (refine Hav3.read (e := ?_) (fun v => by rfl) (fun D v w h => h.read _ (by omega)) (fun D v w' hD hS => ?_) ?_; rotate_left; (obtain ⟨x0, x1, x2, x3, x4⟩ := hS.t.1.cells; clear hS hD; first | (go_simp; done) | (go_simp; with_reducible rfl)); go_simp)
    refine Hav3.rel (fun v => by rfl) (fun D v w' hD hS => ?_) ?_
    · have d8 : D 8 = false := hD.self
      have hb := hS.t.2.1 d8
      have H1 := hide (H2.out.then hb)
      have HS := hide hS; have HB := hide hb; have HD8 := hide d8
      clear hS hD hb d8
      go_simp
      go_at_call 28
      refine (rt_Open rb s G k hkm w' H1.out.pr.b.rep H1.out.pr.b.ok).mono ?_
      rintro e w2 ht
      obtain ⟨u, rfl⟩ : ∃ u, e = .returned u := by
        obtain ⟨F', -, -, ⟨-, h⟩ | ⟨-, tb, a, cc, xs, h, -⟩⟩ := ht
        · exact ⟨_, h⟩
        · exact ⟨_, h⟩
      have hk2 : TwK W w2 xb sb rb tv uv k := by
        obtain ⟨F', h1, h2, -⟩ := ht
        exact ⟨_, _, _, _, H1.out.toB h1 h2 (tpOpen_ok H1.out.pr.b.ok k)⟩
      exact HS.out.called HD8.out ⟨hk2, (fun h => by cases h), fun _ => ⟨w', HB.out, ht⟩⟩
    go_simp
    refine Hav3.rel (fun v => by rfl) (fun D v w' hD hS => ?_) ?_; (focus (have dn := hD.pre 8 (by kernel_rfl); have hm := hide (hS.moved dn); clear hD hS dn; go_simp; first | exact hm.out | exact ⟨_, rfl, hm.out, trivial⟩)); go_simp; refine Hav3.rel (fun v => by rfl) (fun D v w' hD hS => ?_) ?_; (focus (have dn := hD.pre 9 (by kernel_rfl); obtain ⟨u0, u1, u2, hu⟩ := HTUP2.out _ _ (by have h0 := hS.t; rw [(hS.mv dn).1] at h0; exact h0); have hm := hide (hS.ext 0 (by omega) dn (show compV _ _ = _ by rw [hu])); have hv := (hS.mv dn).2; rw [hu] at hv; clear hD hS dn; go_simp; first | exact hm.out | exact ⟨_, rfl, hm.out, trivial⟩)); go_simp; refine Hav3.rel (fun v => by rfl) (fun D v w' hD hS => ?_) ?_; (focus (have dn := hD.pre 9 (by kernel_rfl); obtain ⟨u0, u1, u2, hu⟩ := HTUP2.out _ _ (by have h0 := hS.t; rw [(hS.mv dn).1] at h0; exact h0); have hm := hide (hS.ext 1 (by omega) dn (show compV _ _ = _ by rw [hu])); have hv := (hS.mv dn).2; rw [hu] at hv; clear hD hS dn; go_simp; first | exact hm.out | exact ⟨_, rfl, hm.out, trivial⟩)); go_simp; refine Hav3.rel (fun v => by rfl) (fun D v w' hD hS => ?_) ?_; (focus (have dn := hD.pre 9 (by kernel_rfl); obtain ⟨u0, u1, u2, hu⟩ := HTUP2.out _ _ (by have h0 := hS.t; rw [(hS.mv dn).1] at h0; exact h0); have hm := hide (hS.ext 2 (by omega) dn (show compV _ _ = _ by rw [hu])); have hv := (hS.mv dn).2; rw [hu] at hv; clear hD hS dn; go_simp; first | exact hm.out | exact ⟨_, rfl, hm.out, trivial⟩)); go_simp; refine Hav3.rel (fun v => by rfl) (fun D v w' hD hS => ?_) ?_; (focus (have dn := hD.pre 10 (by kernel_rfl); have hm := hide (hS.asg 0 (by omega) dn); clear hD hS dn; go_simp; first | exact hm.out | exact ⟨_, rfl, hm.out, trivial⟩)); go_simp; refine Hav3.rel (fun v => by rfl) (fun D v w' hD hS => ?_) ?_; (focus (have dn := hD.pre 11 (by kernel_rfl); have hm := hide (hS.asg 1 (by omega) dn); clear hD hS dn; go_simp; first | exact hm.out | exact ⟨_, rfl, hm.out, trivial⟩)); go_simp; refine Hav3.rel (fun v => by rfl) (fun D v w' hD hS => ?_) ?_; (focus (have dn := hD.pre 12 (by kernel_rfl); have hm := hide (hS.asg 2 (by omega) dn); clear hD hS dn; go_simp; first | exact hm.out | exact ⟨_, rfl, hm.out, trivial⟩)); go_simp
    refine Hav3.fin (fun v w4 hS => ?_)
    have HSF := hide hS
    obtain ⟨-, -, ht⟩ := (TupS.fin rfl hS).1
    obtain ⟨w3, hb3, ht⟩ := ht rfl
    have H3 := hide (H2.out.then hb3)
    have HB3 := hide hb3
    unfold RtOpTold at ht
    rw [← HER.out, ← HSS.out] at ht
    obtain ⟨G4, hr4, hc4, hcase⟩ := ht
    have H4 := hide (H3.out.toB hr4 hc4 HOK.out)
    clear hS hb3
    rcases hcase with ⟨hne, -⟩ | ⟨-, ub, na2, nc2, xs2, hv8, hub, huw, huG, hat2, hxs2, hfar2⟩
    case inl => exact absurd rfl hne
    obtain ⟨m2, hm2⟩ : ∃ m, m = xs2.length := ⟨_, rfl⟩
    rw [← hm2] at hat2 hfar2 hv8
    rw [← HNN.out] at hxs2
    have hv8 : v 8 = .tuple #[.pointer (some ⟨ub, 0, none⟩), .slice na2 m2 nc2, .int .i64 0] := by injection hv8
    have hv := TupS.parts3 rfl HSF.out hv8
    simp only [Nat.reduceAdd] at hv
    obtain ⟨g9, g10, g11, g12, g13, g14, g15⟩ := hv
    rw [hv8, g9, g10, g11, g12, g13, g14, g15]
    obtain ⟨x0, x1, x2, x3, x4⟩ := (show TwK W w4 xb sb rb tv uv k from ⟨_, _, _, _, H4.out⟩).cells
    have hfz : ∀ j, w4.frozen? ⟨xb, j, none⟩ = false := (five_cells (H4.out.kept (xb, twoO sb rb tv uv k) (by simp)).1).1
    have hlt : xb < w4.heap.size := (five_cells (H4.out.kept (xb, twoO sb rb tv uv k) (by simp)).1).2
    have hs23 := HB3.out.size
    have hnt : xb ≠ tb := by have := hxl.out; have := HTW.out; omega
    have hnu : xb ≠ ub := by have := hxl.out; omega
    have H4T := hide ((((H2T.out.then HB3.out).toB hr4 hc4 HOK.out).add (b := ub) (o := rtO rb k) hub (fun hm => by have := hF2l.out _ hm; omega) huG (by omega)))
    have hfin : Hid (Tw W ((w4.setCell ⟨xb, 2, none⟩ (.pointer (some ⟨tb, 0, none⟩))).setCell ⟨xb, 3, none⟩ (.pointer (some ⟨ub, 0, none⟩))) sb S' F2 rb S' G4 [(xb, twoO sb rb (.pointer (some ⟨tb, 0, none⟩)) (.pointer (some ⟨ub, 0, none⟩)) k), (tb, tpO sb k), (ub, rtO rb k)]) := hide (by
      have h1 := H4T.out.set (Y := [(xb, twoO sb rb (.pointer (some ⟨tb, 0, none⟩)) uv k), (tb, tpO sb k), (ub, rtO rb k)]) (show (xb, twoO sb rb tv uv k) ∈ _ by simp) 2 (.pointer (some ⟨tb, 0, none⟩)) (fun p hp => by
        simp only [List.mem_cons, List.not_mem_nil, or_false] at hp
        rcases hp with rfl | rfl | rfl
        · exact .inr (by simp [twoO])
        · exact .inl ⟨by simp, hnt.symm⟩
        · exact .inl ⟨by simp, hnu.symm⟩)
      exact h1.set (show (xb, twoO sb rb (.pointer (some ⟨tb, 0, none⟩)) uv k) ∈ _ by simp) 3 (.pointer (some ⟨ub, 0, none⟩)) (fun p hp => by
        simp only [List.mem_cons, List.not_mem_nil, or_false] at hp
        rcases hp with rfl | rfl | rfl
        · exact .inr (by simp [twoO])
        · exact .inl ⟨by simp, hnt.symm⟩
        · exact .inl ⟨by simp, hnu.symm⟩))
    have hnm : Hid (∀ u u2, RdBs ((w4.setCell ⟨xb, 2, none⟩ u).setCell ⟨xb, 3, none⟩ u2) (.slice na m nc) N ∧ RdBs ((w4.setCell ⟨xb, 2, none⟩ u).setCell ⟨xb, 3, none⟩ u2) (.slice na2 m2 nc2) N) := hide fun u u2 => by
      have h3 := HAT.out.low HB3.out
      have h4 := (h3.chg (h3.far (F := G) fun j hj => hGl.out j hj) hc4).1
      have hb : ∀ j o, w1.heap.size ≤ j → w4.heap[j]? = some o → o.isCells = true → ((w4.setCell ⟨xb, 2, none⟩ u).setCell ⟨xb, 3, none⟩ u2).heap[j]? = w4.heap[j]? := fun j o hj _ _ => by
        have := hxl.out
        rw [heap_set_ne (by omega), heap_set_ne (by omega)]
      have r1 := (h4.same hb).rd
      have r2 := (hat2.same fun j o hj h5 h6 => hb j o (by omega) h5 h6).rd
      rw [HXS.out] at r1
      rw [hxs2] at r2
      exact ⟨r1, r2⟩
    have hml : Hid (m = N.length ∧ m2 = N.length) := hide ⟨by rw [← HXS.out, HM.out, List.length_map], by rw [← hxs2, hm2, List.length_map]⟩
    have hmx : Hid (N.length ≤ 1048576) := hide (by rw [HNN.out]; exact notes_le H.out.pr.a.ok k)
    clear hv8 g9 g10 g11 g12 g13 g14 g15 HSF hc4 hr4 hat2 hm2 hxs2 hub huw huG hfar2
    go_wp2_with fail
    refine (ref_SameNotes na na2 m nc m2 nc2 N N _ (hnm.out _ _).1 hml.out.1 (hnm.out _ _).2 hml.out.2 (by have := hml.out; have := hmx.out; omega) (by have := hml.out; have := hmx.out; omega)).mono ?_
    rintro e w6 ⟨rfl, hb6⟩
    have HB6 := hide hb6
    clear hb6
    have hdec : decide (N = N) = true := decide_eq_true rfl
    rw [hdec]
    go_wp2
    go_ret
    exact ⟨rfl, _, S', F2, G4, .inr ⟨tb, ub, rfl, hfin.out.then HB6.out⟩⟩
end Go.Proofs.YtglgjakjhkdoaaaGreatDoor
