/-
  Walks over the law's own helpers: known, heavy.
-/
import Derived.Test.YtipobpcafkhknaaNetH
import Derived.Test.YtipobpcafkhknaaReg
namespace Go.Proofs.Ytipobpcafkhknaa
open Go.RowKit
set_option linter.unusedSimpArgs false
set_option linter.unusedVariables false

theorem bytes_toList (l : List UInt8) : (⟨l.toArray⟩ : ByteArray).toList = l := by
  have key : ∀ (n i : Nat) (r : List UInt8), l.length - i = n → ByteArray.toList.loop ⟨l.toArray⟩ i r = r.reverse ++ l.drop i := by
    intro n
    induction n with
    | zero =>
      intro i r h
      unfold ByteArray.toList.loop
      have : ¬ i < (⟨l.toArray⟩ : ByteArray).size := by simp [ByteArray.size]; omega
      rw [if_neg this, List.drop_eq_nil_of_le (by omega), List.append_nil]
    | succ n ih =>
      intro i r h
      unfold ByteArray.toList.loop
      have hi : i < l.length := by omega
      have : i < (⟨l.toArray⟩ : ByteArray).size := by simpa [ByteArray.size] using hi
      rw [if_pos this, ih (i + 1) _ (by omega), List.drop_eq_getElem_cons hi]
      have e : (⟨l.toArray⟩ : ByteArray).get! i = l[i] := by simp [ByteArray.get!, hi]
      rw [e]
      simp
  have := key (l.length - 0) 0 [] rfl
  simpa [ByteArray.toList] using this

theorem NetRep.alloc {w : World} {nb : Nat} {l : List G} {F : List Nat} (h : NetRep w nb l F) (o : Obj) : NetRep (w.alloc o) nb l F := h.same fun k hk => Below.heap_alloc _ _ _ (h.lt k hk)
theorem NetRep.below {w w' : World} {nb : Nat} {l : List G} {F : List Nat} (h : NetRep w nb l F) (hb : Below w.heap.size w w') : NetRep w' nb l F := h.same fun k hk => hb.block k (h.lt k hk)

/-- a network of the call's own, which began at W -/
def NetAt (W : World) (nb : Nat) (l : List G) (w : World) : Prop := ∃ F, NetRep w nb l F ∧ (∀ k ∈ F, W.heap.size ≤ k) ∧ Below W.heap.size W w
theorem NetAt.step {W w w' : World} {nb : Nat} {l' : List G} {F F' : List Nat} (hf : ∀ k ∈ F, W.heap.size ≤ k) (hb : Below W.heap.size W w) (h : NetRep w' nb l' F') (hc : Chg F F' w w') : NetAt W nb l' w' :=
  ⟨F', h, hc.up hb.size hf, hb.trans (hc.below hb.size hf)⟩
theorem net_new_at (w : World) : NetAt w w.heap.size [] (w.alloc (.cells #[.slice none 0 0] 50)) :=
  ⟨[w.heap.size], ⟨.slice none 0 0, [], rfl, rfl, by simp, by show (w.heap.push _)[w.heap.size]? = _; simp, World.ownsRow_nil _ _ _ _, fun p hp => by cases hp⟩, by simp, (Below.refl _ _).alloc (Nat.le_refl _) _⟩

/-- a list of two elements, as it lies in memory -/
theorem items_two {w : World} {v : Value} {L : List Item} {p0 p1 : List Value × List Value × List UInt8} (hI : Items w 33 2 v L) (hk : L.map Item.key = [p0, p1]) : ∃ t0 t1, L = [t0, t1] ∧ t0.key = p0 ∧ t1.key = p1 := by
  match L, hk with
  | [t0, t1], hk => simp at hk; exact ⟨t0, t1, rfl, hk.1, hk.2⟩

theorem gram_item {w : World} {v : Value} {L : List Item} {i : Nat} {t : Item} {to : Int} {b : List UInt8} (hI : Items w 33 2 v L) (hi : L[i]? = some t) (hk : t.key = ([.int .u8 to], [], b)) (hb : b ≠ []) :
    ∃ g cap gb gc, v = .slice (some ⟨g, 0, none⟩) L.length cap ∧ w.cell? ⟨g, i * 2, none⟩ = some (.int .u8 to) ∧ w.cell? ⟨g, i * 2 + 1, none⟩ = some (.slice (some ⟨gb, 0, none⟩) b.length gc) ∧
      w.ownsRow 0 5 1 (.slice (some ⟨gb, 0, none⟩) b.length gc) b.length (bcells b) ∧ t.x = .slice (some ⟨gb, 0, none⟩) b.length gc := by
  obtain ⟨g, cap, rfl, hc, _, _⟩ := hI.get hi
  obtain ⟨_, _, ho⟩ := hI.each t (List.mem_of_getElem? hi)
  simp only [Item.key, Prod.mk.injEq] at hk
  obtain ⟨h1, h2, rfl⟩ := hk
  obtain ⟨gb, gc, hx, _⟩ := ownsRow_some ho (fun e => by
    rcases ho.2 with ⟨_, hz⟩ | ⟨_, _, _, hz, _⟩
    · exact hb (List.eq_nil_of_length_eq_zero hz)
    · rw [e] at hz; cases hz)
  rw [hx] at ho
  refine ⟨g, cap, gb, gc, rfl, ?_, ?_, ho, hx⟩
  · have := hc 0 (by omega)
    simpa [Item.cells, h1] using this
  · have := hc 1 (by omega)
    simpa [Item.cells, h1, hx] using this

/-- one byte as a string -/
theorem convert_one (x : UInt8) (n : Int) (hn : n = x.toNat) : ∀ (w : World) (b c : Nat), w.cell? ⟨b, 0, none⟩ = some (.int .u8 n) → (convert 22 9 (.slice (some ⟨b, 0, none⟩) 1 c)).run Try.prog w = .ok (.string ⟨#[x]⟩) w := by
  intro w b c h
  subst hn
  exact run_convert_bytes_back (P := Try.prog) w 22 9 5 ⟨b, 0, none⟩ c [x] Try.underlying22 Try.underlying5 Try.underlying9 (fun j hj => by
    have : j = 0 := by simpa using hj
    subst this
    simpa [Addr.add] using h)

/-- a new array of one byte -/
def OneByte (n : Int) (u : Value) (w : World) : Prop := ∃ b, u = .slice (some ⟨b, 0, none⟩) 1 1 ∧ w.cell? ⟨b, 0, none⟩ = some (.int .u8 n) ∧ b < w.heap.size
theorem OneByte.mono (n : Int) (u : Value) (w w' : World) (hb : Below w.heap.size w w') (h : OneByte n u w) : OneByte n u w' := by
  obtain ⟨b, rfl, h1, h2⟩ := h
  exact ⟨b, rfl, (hb.cell (p := ⟨b, 0, none⟩) h2).trans h1, Nat.lt_of_lt_of_le h2 hb.size⟩
theorem OneByte.made (n : Int) (w : World) : OneByte n (.slice (some ⟨w.heap.size, 0, none⟩) 1 1) (w.alloc (.cells #[.int .u8 n] 5)) := ⟨w.heap.size, rfl, by simp, by simp⟩

theorem bent_true (nb : Nat) (l : List G) (F : List Nat) (i : Int) (b : Bool) (w : World) (hn : NetRep w nb l F) (hl : l.length ≤ 4096) (hi : 0 ≤ i) (hi' : i < l.length) (hb : (l[i.toNat]?.map (·.bent)).getD false = b) :
    Calls Try.prog 17 #[.pointer (some ⟨nb, 0, none⟩), .int .i64 i] w fun e w' => e = .returned (.bool b) ∧ w = w' := by
  subst hb
  exact net_bent nb l F i w hn hl hi hi'

set_option maxRecDepth 100000 in
set_option maxHeartbeats 1600000 in
theorem law_known (w : World) : Calls Try.prog 8 #[] w fun e w' => e = .returned (.bool true) ∧ Below w.heap.size w w' := by
  go_enter Try.func8, Try.ntmps8
  go_wp2_with (go_at_call 9; refine (net_new _).mono ?_; rintro e w' ⟨rfl, rfl⟩)
  obtain ⟨F, hr, hf, hb⟩ := net_new_at w
  refine (net_send w.heap.size [] F 1 _ 1 1 [7] _ (hr.alloc _) (by omega) (by omega) (by simpa [bcells] using rd_new (w.alloc _) #[.int .u8 7] 5 1 1 (by simp) (by simp)) (by omega) (by omega) (by simp)).mono ?_
  rintro e w1 ⟨rfl, F1, hr1, hc1⟩
  obtain ⟨F1, hr1, hf1, hb1⟩ := NetAt.step hf (hb.alloc hb.size _) hr1 hc1
  have HR1 := hide hr1; have HF1 := hide hf1; have HB1 := hide hb1; have HNB := hide (⟨hr, hf, hb, hc1⟩ : _ ∧ _ ∧ _ ∧ _)
  clear hr hf hb hr1 hf1 hb1 hc1
  go_wp2_with fail
  refine (net_twice w.heap.size _ F1 0 _ _ HR1.out (by simp) (by omega) rfl (by simp)).mono ?_
  rintro e w2 ⟨rfl, F2, hr2, hc2⟩
  obtain ⟨F2, hr2, hf2, hb2⟩ := NetAt.step HF1.out HB1.out hr2 hc2
  have HR2 := hide hr2; have HF2 := hide hf2; have HB2 := hide hb2
  clear hr2 hf2 hb2 hc2
  go_wp2_with fail
  refine (net_bend w.heap.size _ F2 1 0 1 _ _ HR2.out (by simp) (by omega) rfl (by simp) (by omega) (by simp) (by decide)).mono ?_
  rintro e w3 ⟨rfl, F3, hr3, hc3⟩
  obtain ⟨F3, hr3, hf3, hb3⟩ := NetAt.step HF2.out HB2.out hr3 hc3
  have HR3 := hide hr3; have HF3 := hide hf3; have HB3 := hide hb3
  clear hr3 hf3 hb3 hc3
  go_wp2_with fail
  refine (net_grams w.heap.size _ F3 _ HR3.out (by simp) (by simp)).mono ?_
  rintro e w4 ⟨v, L, rfl, hI, hk, hfr, hb4⟩
  obtain ⟨t0, t1, rfl, k0, k1⟩ := items_two hI hk
  obtain ⟨g, cap, g0, gc0, rfl, c0, c1, o0, _⟩ := gram_item hI (i := 0) rfl k0 (by simp)
  obtain ⟨g', cap', g1, gc1, hv, d0, d1, o1, _⟩ := gram_item hI (i := 1) rfl k1 (by simp)
  simp only [Value.slice.injEq, Option.some.injEq, Addr.mk.injEq, and_true, true_and] at hv
  obtain ⟨rfl, rfl⟩ := hv
  have b0 := o0.cellAt 0 (by simp)
  have b1 := o1.cellAt 0 (by simp)
  simp [bcells] at b0 b1 c1 d1
  have HR4 := hide (HR3.out.below hb4)
  have HB4 := hide (HB3.out.trans (hb4.mono HB3.out.size))
  clear hI hk k0 k1 o0 o1 hb4 hfr
  go_wp2_with fail
  have hgl : g < w4.heap.size := World.block_lt_of_cell? _ _ c1
  have hg0 : g0 < w4.heap.size := World.block_lt_of_cell? _ _ b0
  have hg1 : g1 < w4.heap.size := World.block_lt_of_cell? _ _ b1
  have hl2 : [t0, t1].length = 2 := rfl
  have hv7 := convert_one 7 7 rfl
  have hv6 := convert_one 6 6 rfl
  refine wp_region_new 42 59 (by kernel_rfl) (by kernel_rfl) rfl (by kernel_rfl) (fun w' => Below w4.heap.size w4 w') (Below.refl _ _) (fun w w' h1 h2 => h2.trans (h1.mono h2.size)) (fun h => h.drew) ?_
  simp only [List.take_succ_cons, List.take_zero, List.drop_succ_cons, List.drop_zero]
  have e1 : ∀ w', Below w4.heap.size w4 w' → w'.cell? ⟨g, 1, none⟩ = some (.slice (some ⟨g0, 0, none⟩) 1 gc0) := fun w' h => (h.cell (p := ⟨g, 1, none⟩) hgl).trans c1
  have e3 : ∀ w', Below w4.heap.size w4 w' → w'.cell? ⟨g, 3, none⟩ = some (.slice (some ⟨g1, 0, none⟩) 1 gc1) := fun w' h => (h.cell (p := ⟨g, 3, none⟩) hgl).trans d1
  have z0 : ∀ w', Below w4.heap.size w4 w' → w'.cell? ⟨g0, 0, none⟩ = some (.int .u8 7) := fun w' h => (h.cell (p := ⟨g0, 0, none⟩) hg0).trans b0
  have z1 : ∀ w', Below w4.heap.size w4 w' → w'.cell? ⟨g1, 0, none⟩ = some (.int .u8 6) := fun w' h => (h.cell (p := ⟨g1, 0, none⟩) hg1).trans b1
  clear c1 d1 b0 b1 hr1 hr2 hr3
  have HR5 : Hid (∀ w', Below w4.heap.size w4 w' → NetRep w' w.heap.size [⟨1, [7], false⟩, ⟨1, [6], true⟩] F3) := fun w' h => NetRep.below HR4.out h
  iterate 18 (refine Hav.read (e := ?_) (fun v => by rfl) (fun v w' hS hF => ?_) ?_; rotate_left; (first | (go_simp; done) | (go_simp; with_reducible rfl)); go_simp)
  refine Hav.rel (OneByte 7) (OneByte.mono 7) (fun v w' hS hF => ⟨by rfl, ?_⟩) ?_
  · go_simp
    exact ⟨OneByte.made 7 _, (Below.refl _ _).alloc (Nat.le_refl _) _⟩
  go_simp
  refine Hav.read (.string ⟨#[7]⟩) (fun v => by rfl) (fun v w' hS hF => ?_) ?_
  · obtain ⟨b, hb, hc, _⟩ := hF (18, OneByte 7) (by simp) (by simp [isAfter, Region.binds])
    simp only at hb
    clear hF
    go_simp
  go_simp
  iterate 8 (refine Hav.read (e := ?_) (fun v => by rfl) (fun v w' hS hF => ?_) ?_; rotate_left; (first | (go_simp; done) | (go_simp; with_reducible rfl)); go_simp)
  refine Hav.rel (OneByte 6) (OneByte.mono 6) (fun v w' hS hF => ⟨by rfl, ?_⟩) ?_
  · go_simp
    exact ⟨OneByte.made 6 _, (Below.refl _ _).alloc (Nat.le_refl _) _⟩
  go_simp
  refine Hav.read (.string ⟨#[6]⟩) (fun v => by rfl) (fun v w' hS hF => ?_) ?_
  · obtain ⟨b, hb, hc, _⟩ := hF (28, OneByte 6) (by simp) (by simp [isAfter, Region.binds])
    simp only at hb
    clear hF
    go_simp
  go_simp
  iterate 4 (refine Hav.read (e := ?_) (fun v => by rfl) (fun v w' hS hF => ?_) ?_; rotate_left; (first | (go_simp; done) | (go_simp; with_reducible rfl)); go_simp)
  refine Hav.call (.bool true) (fun v => by rfl) (fun v w' hS hF => ?_) ?_
  · go_simp
    go_at_call 17
    refine (bent_true w.heap.size _ F3 _ true _ (HR5.out _ hS) (by simp) (by omega) (by simp) rfl).mono ?_
    rintro e w'' ⟨rfl, rfl⟩
    go_simp
    exact Below.refl _ _
  go_simp
  iterate 3 (refine Hav.read (e := ?_) (fun v => by rfl) (fun v w' hS hF => ?_) ?_; rotate_left; (first | (go_simp; done) | (go_simp; with_reducible rfl)); go_simp)
  refine Hav.call (.bool false) (fun v => by rfl) (fun v w' hS hF => ?_) ?_
  · go_simp
    go_at_call 17
    refine (bent_true w.heap.size _ F3 _ false _ (HR5.out _ hS) (by simp) (by omega) (by simp) rfl).mono ?_
    rintro e w'' ⟨rfl, rfl⟩
    go_simp
    exact Below.refl _ _
  go_simp
  iterate 3 (refine Hav.read (e := ?_) (fun v => by rfl) (fun v w' hS hF => ?_) ?_; rotate_left; (first | (go_simp; done) | (go_simp; with_reducible rfl)); go_simp)
  refine Hav.fin (fun v w' hS hF => ?_)
  clear hF
  have HS := hide hS; clear hS
  go_wp2
  go_ret
  exact ⟨rfl, HB4.out.trans (HS.out.mono HB4.out.size)⟩
end Go.Proofs.Ytipobpcafkhknaa
