/-
  The walk of the law's helper 'does'.
-/
import Derived.Test.YtipobpcafkhknaaNetW
namespace Go.Proofs.Ytipobpcafkhknaa
open Go.RowKit
set_option linter.unusedVariables false
set_option linter.unusedSimpArgs false

/-- both networks, apart -/
def Two (W : World) (nb rb : Nat) (F0 : List Nat) (l lr : List G) (w : World) : Prop := ∃ F Fr, NetRep w nb l F ∧ RefRep w rb lr Fr ∧ (∀ k ∈ F, k ∉ Fr) ∧ Chg F0 (F ++ Fr) W w
theorem Two.low {W w w' : World} {nb rb : Nat} {F0 : List Nat} {l lr : List G} (h : Two W nb rb F0 l lr w) (hb : Below w.heap.size w w') : Two W nb rb F0 l lr w' := by
  obtain ⟨F, Fr, h1, h2, h3, h4⟩ := h
  exact ⟨F, Fr, h1.below hb, h2.below hb, h3, h4.trans (Chg.of_below hb)⟩
theorem Two.net {W w : World} {nb rb : Nat} {F0 : List Nat} {l lr : List G} {f : FuncId} {args : Array Value} {r : List G × Bool} (h : Two W nb rb F0 l lr w) (hc : ∀ F, NetRep w nb l F → Calls Try.prog f args w (Stepped (fun w l F => NetRep w nb l F) w F r)) :
    Calls Try.prog f args w fun e w' => e = .returned (.bool r.2) ∧ Two W nb rb F0 r.1 lr w' := by
  obtain ⟨F, Fr, h1, h2, h3, h4⟩ := h
  refine (hc F h1).mono ?_
  rintro e w' ⟨rfl, F', h5, h6⟩
  have hlt := h2.lt
  refine ⟨rfl, F', Fr, h5, h2.same fun k hk => h6.block k (hlt k hk) fun hF => h3 k hF hk, fun k hk hr => ?_, h4.trans ⟨h6.os, h6.tape, h6.output, h6.size, fun k hk hn => h6.block k hk fun hF => hn (List.mem_append_left _ hF), fun k hk => ?_⟩⟩
  · rcases h6.fresh k hk with hF | hge
    · exact h3 k hF hr
    · have := hlt k hr; omega
  · rcases List.mem_append.1 hk with hk | hk
    · rcases h6.fresh k hk with hF | hge
      · exact .inl (List.mem_append_left _ hF)
      · exact .inr hge
    · exact .inl (List.mem_append_right _ hk)
theorem Two.ref {W w : World} {nb rb : Nat} {F0 : List Nat} {l lr : List G} {f : FuncId} {args : Array Value} {r : List G × Bool} (h : Two W nb rb F0 l lr w) (hc : ∀ F, RefRep w rb lr F → Calls Try.prog f args w (Stepped (fun w l F => RefRep w rb l F) w F r)) :
    Calls Try.prog f args w fun e w' => e = .returned (.bool r.2) ∧ Two W nb rb F0 l r.1 w' := by
  obtain ⟨F, Fr, h1, h2, h3, h4⟩ := h
  refine (hc Fr h2).mono ?_
  rintro e w' ⟨rfl, F', h5, h6⟩
  have hlt := h1.lt
  refine ⟨rfl, F, F', h1.same fun k hk => h6.block k (hlt k hk) fun hF => h3 k hk hF, h5, fun k hk hr => ?_, h4.trans ⟨h6.os, h6.tape, h6.output, h6.size, fun k hk hn => h6.block k hk fun hF => hn (List.mem_append_right _ hF), fun k hk => ?_⟩⟩
  · rcases h6.fresh k hr with hF | hge
    · exact h3 k hk hF
    · have := hlt k hk; omega
  · rcases List.mem_append.1 hk with hk | hk
    · exact .inl (List.mem_append_left _ hk)
    · rcases h6.fresh k hk with hF | hge
      · exact .inl (List.mem_append_right _ hF)
      · exact .inr hge
theorem Two.cell {W w : World} {nb rb : Nat} {F0 : List Nat} {l lr : List G} (h : Two W nb rb F0 l lr w) {q : Nat} (o : Nat) (hq : q < W.heap.size) (hn : q ∉ F0) : w.cell? ⟨q, o, none⟩ = W.cell? ⟨q, o, none⟩ := by
  obtain ⟨F, Fr, h1, h2, h3, h4⟩ := h
  exact (h4.cellAt o hq hn).1

/-- an operation's value -/
def opV (kd to : Int) (xs : Value) (i a x : Int) : Value := .agg #[.int .u8 kd, .int .u8 to, xs, .int .i64 i, .int .i64 a, .int .u8 x]
def opObj (kd to : Int) (xs : Value) (i a x : Int) : Obj := .cells #[.int .u8 kd, .int .u8 to, xs, .int .i64 i, .int .i64 a, .int .u8 x] 31

/-- what does leaves -/
def Done (W : World) (nb rb : Nat) (F0 : List Nat) (l lr l' lr' : List G) (e : Ending) (w' : World) : Prop := ∃ r, e = .returned (.bool r) ∧ (l = lr → r = true) ∧ Two W nb rb F0 l' lr' w'

theorem two_start {w : World} {nb rb : Nat} {l lr : List G} {F Fr : List Nat} (h1 : NetRep w nb l F) (h2 : RefRep w rb lr Fr) (h3 : ∀ k ∈ F, k ∉ Fr) (o : Obj) : Two (w.alloc o) nb rb (F ++ Fr) l lr (w.alloc o) :=
  have hb : Below w.heap.size w (w.alloc o) := (Below.refl _ _).alloc (Nat.le_refl _) _
  ⟨F, Fr, h1.below hb, h2.below hb, h3, Chg.refl _ _⟩
theorem Two.back {w W w' : World} {nb rb : Nat} {l lr : List G} {F0 : List Nat} (h : Two W nb rb F0 l lr w') (hb : Below w.heap.size w W) : Two w nb rb F0 l lr w' := by
  obtain ⟨F, Fr, h1, h2, h3, h4⟩ := h
  exact ⟨F, Fr, h1, h2, h3, (Chg.of_below hb).trans h4⟩
theorem Two.undrew {W w : World} {nb rb : Nat} {l lr : List G} {F0 : List Nat} (h : Two W nb rb F0 l lr w) : Two W nb rb F0 l lr w.drew := by
  obtain ⟨F, Fr, h1, h2, h3, h4⟩ := h
  exact ⟨F, Fr, h1.same fun k hk => rfl, h2.same fun k hk => rfl, h3, ⟨h4.os, h4.tape, h4.output, h4.size, h4.block, h4.fresh⟩⟩

set_option maxRecDepth 100000 in
set_option maxHeartbeats 3200000 in
theorem does_drop (nb rb : Nat) (F Fr : List Nat) (l lr : List G) (kd to : Int) (xa : Option Addr) (m xc : Nat) (i a x : Int) (w : World) (h1 : NetRep w nb l F) (h2 : RefRep w rb lr Fr) (h3 : ∀ k ∈ F, k ∉ Fr) (hl : Good l) (hlr : Good lr) (hk : kd.tmod 8 = 4) :
    Calls Try.prog 16 #[.pointer (some ⟨nb, 0, none⟩), .pointer (some ⟨rb, 0, none⟩), opV kd to (.slice xa m xc) i a x] w (Done w nb rb (F ++ Fr) l lr (dropS l i).1 (dropS lr i).1) := by
  have hst := two_start h1 h2 h3 (opObj kd to (.slice xa m xc) i a x)
  have hlt : ∀ k ∈ F ++ Fr, k < w.heap.size := fun k hk => (List.mem_append.1 hk).elim (h1.lt k) (h2.lt k)
  have hC : ∀ l1 l2 w', Two (w.alloc (opObj kd to (.slice xa m xc) i a x)) nb rb (F ++ Fr) l1 l2 w' → w'.cell? ⟨w.heap.size, 3, none⟩ = some (.int .i64 i) := fun l1 l2 w' h => by
    rw [h.cell (q := w.heap.size) 3 (by simp) (fun hm => Nat.lt_irrefl _ (hlt _ hm))]
    simp [opObj, go_sem]
  have HC := hide hC; have HST := hide hst; have HL := hide hl; have HLR := hide hlr
  have b3 : (kd.tmod 8 == 3) = false := by rw [hk]; rfl
  have b4 : (kd.tmod 8 == 4) = true := by rw [hk]; rfl
  clear h1 h2 h3 hl hlr hC hst hlt hk
  unfold opV
  go_enter Try.func16, Try.ntmps16
  go_wp2
  refine wp_region_two 9 145 (by kernel_rfl) (by kernel_rfl) rfl (by kernel_rfl)
    (fun D w' => Two (w.alloc (opObj kd to (.slice xa m xc) i a x)) nb rb (F ++ Fr) (if D 3 then (dropS l i).1 else l) (if D 7 then (dropS lr i).1 else lr) w') HST.out.undrew ?_
  simp only [List.take_succ_cons, List.take_zero, List.drop_succ_cons, List.drop_zero]
  iterate 3 (refine Hav2.read (e := ?_) (by rfl) (fun D w h => h) (fun D w' hS => ?_) ?_; rotate_left; (have hc := HC.out _ _ _ hS; first | (go_simp; done) | (go_simp; with_reducible rfl)); go_simp)
  refine Hav2.call (.bool (dropS l i).2) (by rfl) (fun D w' hD hS => ?_) ?_
  · have hd := hD.self
    simp only [hd] at hS
    go_simp
    go_at_call 24
    refine (hS.net fun F' hn => net_drop_any nb l F' i w' hn HL.out).mono ?_
    rintro e w'' ⟨rfl, h2⟩
    go_simp
    exact h2
  go_simp
  iterate 3 (refine Hav2.read (e := ?_) (by rfl) (fun D w h => h) (fun D w' hS => ?_) ?_; rotate_left; (have hc := HC.out _ _ _ hS; first | (go_simp; done) | (go_simp; with_reducible rfl)); go_simp)
  refine Hav2.call (.bool (dropS lr i).2) (by rfl) (fun D w' hD hS => ?_) ?_
  · have hd := hD.self
    simp only [hd] at hS
    go_simp
    go_at_call 25
    refine (hS.ref fun F' hn => ref_drop_any rb lr F' i w' hn HLR.out).mono ?_
    rintro e w'' ⟨rfl, h2⟩
    go_simp
    exact h2
  go_simp
  refine Hav2.read (e := ?_) (by rfl) (fun D w h => h) (fun D w' hS => ?_) ?_
  rotate_left
  first | (go_simp; done) | (go_simp; with_reducible rfl)
  go_simp
  intro w' hS
  have HS := hide hS; clear hS
  go_wp2
  go_ret
  refine ⟨_, rfl, fun e => by subst e; simp, ?_⟩
  exact HS.out.back ((Below.refl _ _).alloc (Nat.le_refl _) _)
set_option maxRecDepth 100000 in
set_option maxHeartbeats 3200000 in
theorem does_twice (nb rb : Nat) (F Fr : List Nat) (l lr : List G) (kd to : Int) (xa : Option Addr) (m xc : Nat) (i a x : Int) (w : World) (h1 : NetRep w nb l F) (h2 : RefRep w rb lr Fr) (h3 : ∀ k ∈ F, k ∉ Fr) (hl : Good l) (hlr : Good lr) (hk : kd.tmod 8 = 5) :
    Calls Try.prog 16 #[.pointer (some ⟨nb, 0, none⟩), .pointer (some ⟨rb, 0, none⟩), opV kd to (.slice xa m xc) i a x] w (Done w nb rb (F ++ Fr) l lr (twiceS l i).1 (twiceS lr i).1) := by
  have hst := two_start h1 h2 h3 (opObj kd to (.slice xa m xc) i a x)
  have hlt : ∀ k ∈ F ++ Fr, k < w.heap.size := fun k hk => (List.mem_append.1 hk).elim (h1.lt k) (h2.lt k)
  have hC : ∀ l1 l2 w', Two (w.alloc (opObj kd to (.slice xa m xc) i a x)) nb rb (F ++ Fr) l1 l2 w' → w'.cell? ⟨w.heap.size, 3, none⟩ = some (.int .i64 i) := fun l1 l2 w' h => by
    rw [h.cell (q := w.heap.size) 3 (by simp) (fun hm => Nat.lt_irrefl _ (hlt _ hm))]
    simp [opObj, go_sem]
  have HC := hide hC; have HST := hide hst; have HL := hide hl; have HLR := hide hlr
  have b3 : (kd.tmod 8 == 3) = false := by rw [hk]; rfl
  have b4 : (kd.tmod 8 == 4) = false := by rw [hk]; rfl
  have b5 : (kd.tmod 8 == 5) = true := by rw [hk]; rfl
  clear h1 h2 h3 hl hlr hC hst hlt hk
  unfold opV
  go_enter Try.func16, Try.ntmps16
  go_wp2
  refine wp_region_two 9 145 (by kernel_rfl) (by kernel_rfl) rfl (by kernel_rfl)
    (fun D w' => Two (w.alloc (opObj kd to (.slice xa m xc) i a x)) nb rb (F ++ Fr) (if D 3 then (twiceS l i).1 else l) (if D 7 then (twiceS lr i).1 else lr) w') HST.out.undrew ?_
  simp only [List.take_succ_cons, List.take_zero, List.drop_succ_cons, List.drop_zero]
  iterate 3 (refine Hav2.read (e := ?_) (by rfl) (fun D w h => h) (fun D w' hS => ?_) ?_; rotate_left; (have hc := HC.out _ _ _ hS; first | (go_simp; done) | (go_simp; with_reducible rfl)); go_simp)
  refine Hav2.call (.bool (twiceS l i).2) (by rfl) (fun D w' hD hS => ?_) ?_
  · have hd := hD.self
    simp only [hd] at hS
    go_simp
    go_at_call 11
    refine (hS.net fun F' hn => net_twice_any nb l F' i w' hn HL.out).mono ?_
    rintro e w'' ⟨rfl, h2⟩
    go_simp
    exact h2
  go_simp
  iterate 3 (refine Hav2.read (e := ?_) (by rfl) (fun D w h => h) (fun D w' hS => ?_) ?_; rotate_left; (have hc := HC.out _ _ _ hS; first | (go_simp; done) | (go_simp; with_reducible rfl)); go_simp)
  refine Hav2.call (.bool (twiceS lr i).2) (by rfl) (fun D w' hD hS => ?_) ?_
  · have hd := hD.self
    simp only [hd] at hS
    go_simp
    go_at_call 26
    refine (hS.ref fun F' hn => ref_twice_any rb lr F' i w' hn HLR.out).mono ?_
    rintro e w'' ⟨rfl, h2⟩
    go_simp
    exact h2
  go_simp
  refine Hav2.read (e := ?_) (by rfl) (fun D w h => h) (fun D w' hS => ?_) ?_
  rotate_left
  first | (go_simp; done) | (go_simp; with_reducible rfl)
  go_simp
  intro w' hS
  have HS := hide hS; clear hS
  go_wp2
  go_ret
  refine ⟨_, rfl, fun e => by subst e; simp, ?_⟩
  exact HS.out.back ((Below.refl _ _).alloc (Nat.le_refl _) _)
set_option maxRecDepth 100000 in
set_option maxHeartbeats 3200000 in
theorem does_bend6 (nb rb : Nat) (F Fr : List Nat) (l lr : List G) (kd to : Int) (xa : Option Addr) (m xc : Nat) (i a : Int) (x : UInt8) (w : World) (h1 : NetRep w nb l F) (h2 : RefRep w rb lr Fr) (h3 : ∀ k ∈ F, k ∉ Fr) (hl : Good l) (hlr : Good lr) (hk : kd.tmod 8 = 6) :
    Calls Try.prog 16 #[.pointer (some ⟨nb, 0, none⟩), .pointer (some ⟨rb, 0, none⟩), opV kd to (.slice xa m xc) i a x.toNat] w (Done w nb rb (F ++ Fr) l lr (bendS l i a x).1 (bendS lr i a x).1) := by
  have hst := two_start h1 h2 h3 (opObj kd to (.slice xa m xc) i a x.toNat)
  have hlt : ∀ k ∈ F ++ Fr, k < w.heap.size := fun k hk => (List.mem_append.1 hk).elim (h1.lt k) (h2.lt k)
  have hC : ∀ l1 l2 w', Two (w.alloc (opObj kd to (.slice xa m xc) i a x.toNat)) nb rb (F ++ Fr) l1 l2 w' → w'.cell? ⟨w.heap.size, 3, none⟩ = some (.int .i64 i) ∧ w'.cell? ⟨w.heap.size, 4, none⟩ = some (.int .i64 a) ∧ w'.cell? ⟨w.heap.size, 5, none⟩ = some (.int .u8 x.toNat) := fun l1 l2 w' h => by
    rw [h.cell (q := w.heap.size) 3 (by simp) (fun hm => Nat.lt_irrefl _ (hlt _ hm)), h.cell (q := w.heap.size) 4 (by simp) (fun hm => Nat.lt_irrefl _ (hlt _ hm)), h.cell (q := w.heap.size) 5 (by simp) (fun hm => Nat.lt_irrefl _ (hlt _ hm))]
    simp [opObj, go_sem]
  have HC := hide hC; have HST := hide hst; have HL := hide hl; have HLR := hide hlr
  have b3 : (kd.tmod 8 == 3) = false := by rw [hk]; rfl
  have b4 : (kd.tmod 8 == 4) = false := by rw [hk]; rfl
  have b5 : (kd.tmod 8 == 5) = false := by rw [hk]; rfl
  have b6 : (kd.tmod 8 == 6) = true := by rw [hk]; rfl
  clear h1 h2 h3 hl hlr hC hst hlt hk
  unfold opV
  go_enter Try.func16, Try.ntmps16
  go_wp2
  refine wp_region_two 17 145 (by kernel_rfl) (by kernel_rfl) rfl (by kernel_rfl)
    (fun D w' => Two (w.alloc (opObj kd to (.slice xa m xc) i a x.toNat)) nb rb (F ++ Fr) (if D 7 then (bendS l i a x).1 else l) (if D 15 then (bendS lr i a x).1 else lr) w') HST.out.undrew ?_
  simp only [List.take_succ_cons, List.take_zero, List.drop_succ_cons, List.drop_zero]
  iterate 7 (refine Hav2.read (e := ?_) (by rfl) (fun D w h => h) (fun D w' hS => ?_) ?_; rotate_left; (obtain ⟨hc1, hc2, hc3⟩ := HC.out _ _ _ hS; first | (go_simp; done) | (go_simp; with_reducible rfl)); go_simp)
  refine Hav2.call (.bool (bendS l i a x).2) (by rfl) (fun D w' hD hS => ?_) ?_
  · have hd := hD.self
    simp only [hd] at hS
    go_simp
    go_at_call 19
    refine (hS.net fun F' hn => net_bend_any nb l F' i a x w' hn HL.out).mono ?_
    rintro e w'' ⟨rfl, h2⟩
    go_simp
    exact h2
  go_simp
  iterate 7 (refine Hav2.read (e := ?_) (by rfl) (fun D w h => h) (fun D w' hS => ?_) ?_; rotate_left; (obtain ⟨hc1, hc2, hc3⟩ := HC.out _ _ _ hS; first | (go_simp; done) | (go_simp; with_reducible rfl)); go_simp)
  refine Hav2.call (.bool (bendS lr i a x).2) (by rfl) (fun D w' hD hS => ?_) ?_
  · have hd := hD.self
    simp only [hd] at hS
    go_simp
    go_at_call 27
    refine (hS.ref fun F' hn => ref_bend_any rb lr F' i a x w' hn HLR.out).mono ?_
    rintro e w'' ⟨rfl, h2⟩
    go_simp
    exact h2
  go_simp
  refine Hav2.read (e := ?_) (by rfl) (fun D w h => h) (fun D w' hS => ?_) ?_
  rotate_left
  first | (go_simp; done) | (go_simp; with_reducible rfl)
  go_simp
  intro w' hS
  have HS := hide hS; clear hS
  go_wp2
  go_ret
  refine ⟨_, rfl, fun e => by subst e; simp, ?_⟩
  exact HS.out.back ((Below.refl _ _).alloc (Nat.le_refl _) _)
set_option maxRecDepth 100000 in
set_option maxHeartbeats 3200000 in
theorem does_bend7 (nb rb : Nat) (F Fr : List Nat) (l lr : List G) (kd to : Int) (xa : Option Addr) (m xc : Nat) (i a : Int) (x : UInt8) (w : World) (h1 : NetRep w nb l F) (h2 : RefRep w rb lr Fr) (h3 : ∀ k ∈ F, k ∉ Fr) (hl : Good l) (hlr : Good lr) (hk : kd.tmod 8 = 7) :
    Calls Try.prog 16 #[.pointer (some ⟨nb, 0, none⟩), .pointer (some ⟨rb, 0, none⟩), opV kd to (.slice xa m xc) i a x.toNat] w (Done w nb rb (F ++ Fr) l lr (bendS l i a x).1 (bendS lr i a x).1) := by
  have hst := two_start h1 h2 h3 (opObj kd to (.slice xa m xc) i a x.toNat)
  have hlt : ∀ k ∈ F ++ Fr, k < w.heap.size := fun k hk => (List.mem_append.1 hk).elim (h1.lt k) (h2.lt k)
  have hC : ∀ l1 l2 w', Two (w.alloc (opObj kd to (.slice xa m xc) i a x.toNat)) nb rb (F ++ Fr) l1 l2 w' → w'.cell? ⟨w.heap.size, 3, none⟩ = some (.int .i64 i) ∧ w'.cell? ⟨w.heap.size, 4, none⟩ = some (.int .i64 a) ∧ w'.cell? ⟨w.heap.size, 5, none⟩ = some (.int .u8 x.toNat) := fun l1 l2 w' h => by
    rw [h.cell (q := w.heap.size) 3 (by simp) (fun hm => Nat.lt_irrefl _ (hlt _ hm)), h.cell (q := w.heap.size) 4 (by simp) (fun hm => Nat.lt_irrefl _ (hlt _ hm)), h.cell (q := w.heap.size) 5 (by simp) (fun hm => Nat.lt_irrefl _ (hlt _ hm))]
    simp [opObj, go_sem]
  have HC := hide hC; have HST := hide hst; have HL := hide hl; have HLR := hide hlr
  have b3 : (kd.tmod 8 == 3) = false := by rw [hk]; rfl
  have b4 : (kd.tmod 8 == 4) = false := by rw [hk]; rfl
  have b5 : (kd.tmod 8 == 5) = false := by rw [hk]; rfl
  have b6 : (kd.tmod 8 == 6) = false := by rw [hk]; rfl
  have b7 : (kd.tmod 8 == 7) = true := by rw [hk]; rfl
  clear h1 h2 h3 hl hlr hC hst hlt hk
  unfold opV
  go_enter Try.func16, Try.ntmps16
  go_wp2
  refine wp_region_two 17 145 (by kernel_rfl) (by kernel_rfl) rfl (by kernel_rfl)
    (fun D w' => Two (w.alloc (opObj kd to (.slice xa m xc) i a x.toNat)) nb rb (F ++ Fr) (if D 7 then (bendS l i a x).1 else l) (if D 15 then (bendS lr i a x).1 else lr) w') HST.out.undrew ?_
  simp only [List.take_succ_cons, List.take_zero, List.drop_succ_cons, List.drop_zero]
  iterate 7 (refine Hav2.read (e := ?_) (by rfl) (fun D w h => h) (fun D w' hS => ?_) ?_; rotate_left; (obtain ⟨hc1, hc2, hc3⟩ := HC.out _ _ _ hS; first | (go_simp; done) | (go_simp; with_reducible rfl)); go_simp)
  refine Hav2.call (.bool (bendS l i a x).2) (by rfl) (fun D w' hD hS => ?_) ?_
  · have hd := hD.self
    simp only [hd] at hS
    go_simp
    go_at_call 19
    refine (hS.net fun F' hn => net_bend_any nb l F' i a x w' hn HL.out).mono ?_
    rintro e w'' ⟨rfl, h2⟩
    go_simp
    exact h2
  go_simp
  iterate 7 (refine Hav2.read (e := ?_) (by rfl) (fun D w h => h) (fun D w' hS => ?_) ?_; rotate_left; (obtain ⟨hc1, hc2, hc3⟩ := HC.out _ _ _ hS; first | (go_simp; done) | (go_simp; with_reducible rfl)); go_simp)
  refine Hav2.call (.bool (bendS lr i a x).2) (by rfl) (fun D w' hD hS => ?_) ?_
  · have hd := hD.self
    simp only [hd] at hS
    go_simp
    go_at_call 27
    refine (hS.ref fun F' hn => ref_bend_any rb lr F' i a x w' hn HLR.out).mono ?_
    rintro e w'' ⟨rfl, h2⟩
    go_simp
    exact h2
  go_simp
  refine Hav2.read (e := ?_) (by rfl) (fun D w h => h) (fun D w' hS => ?_) ?_
  rotate_left
  first | (go_simp; done) | (go_simp; with_reducible rfl)
  go_simp
  intro w' hS
  have HS := hide hS; clear hS
  go_wp2
  go_ret
  refine ⟨_, rfl, fun e => by subst e; simp, ?_⟩
  exact HS.out.back ((Below.refl _ _).alloc (Nat.le_refl _) _)
end Go.Proofs.Ytipobpcafkhknaa
