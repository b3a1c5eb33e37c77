/-
  The walk of FsOpens.
-/
import Derived.Test.YtcgkhocmlolknaaDoE
namespace Go.Proofs.Ytcgkhocmlolknaa
open Go.RowKit Go.Maps
set_option linter.unusedVariables false
set_option linter.unusedSimpArgs false

theorem fsFile_info : (Try.prog.info? 34).map (fun i => (i.zero, i.size, i.bytes)) = some (some (.agg #[.string ⟨#[]⟩, .slice none 0 0]), 2, 40) := by kernel_rfl
/-- bytes that may be written -/
def U8Blk (w : World) (e : Ent) : Prop := ∀ j, j < e.n → ∃ g cur z, e.a = some ⟨g, 0, none⟩ ∧ w.heap[g]? = some (.cells cur 5 (0, 0)) ∧ cur[j]? = some (.int .u8 (z : Nat)) ∧ z < 256
theorem EX.u8 {w : World} {e : Ent} (h : EX w e) : U8Blk w e := fun j hj => by
  rcases h.own.2 with ⟨h1, h2⟩ | ⟨g, cap, cur, h1, _, h3, h4, h5, h6, h7⟩
  · omega
  · have he : e.a = some ⟨g, 0, none⟩ := by
      have h1' : Value.slice e.a e.n e.c = .slice (some ⟨g, 0, none⟩) e.n cap := h1
      simp only [Value.slice.injEq] at h1'
      exact h1'.1
    have hn := h.n
    have h8 : (bcells e.b)[j]? = some (.int .u8 (e.b[j]'(by omega)).toNat) := by simp [bcells, List.getElem?_eq_getElem (show j < e.b.length by omega)]
    rw [← h7, List.getElem?_take_of_lt (by omega)] at h8
    have h9 := (e.b[j]'(by omega)).toNat_lt
    exact ⟨g, cur, _, he, h3, by simpa using h8, h9⟩
theorem U8Blk.same {w w' : World} {e : Ent} (h : U8Blk w e) (hk : ∀ k, e.v.ownBlock = some k → w'.heap[k]? = w.heap[k]?) : U8Blk w' e := fun j hj => by
  obtain ⟨g, cur, z, h1, h2, h3⟩ := h j hj
  exact ⟨g, cur, z, h1, (hk g (by show (Value.slice e.a e.n e.c).ownBlock = some g; rw [h1]; rfl)).trans h2, h3⟩
theorem U8Blk.low {w w' : World} {e : Ent} (h : U8Blk w e) (hb : Below w.heap.size w w') : U8Blk w' e := fun j hj => by
  obtain ⟨g, cur, z, h1, h2, h3⟩ := h j hj
  exact ⟨g, cur, z, h1, (hb.block g (Array.getElem?_eq_some_iff.1 h2).1).trans h2, h3⟩
theorem U8Blk.set {w : World} {e : Ent} (h : U8Blk w e) (g i y : Nat) (hy : y < 256) : U8Blk (w.setCell ⟨g, i, none⟩ (.int .u8 (y : Nat))) e := fun j hj => by
  obtain ⟨g', cur, z, h1, h2, h3, h4⟩ := h j hj
  by_cases hg : g' = g
  · subst hg
    have h5 := setCell_heap h2 i (.int .u8 (y : Nat))
    by_cases hij : i = j
    · subst hij
      refine ⟨g', _, y, h1, h5, ?_, hy⟩
      have := (Array.getElem?_eq_some_iff.1 h3).1
      simp [this]
    · refine ⟨g', _, z, h1, h5, ?_, h4⟩
      simp only [Array.getElem?_setIfInBounds, if_neg hij]
      exact h3
  · exact ⟨g', cur, z, h1, (heap_set_ne hg).trans h2, h3, h4⟩

/-- rows that are made, so far -/
structure OwA (wr : World) (B : Nat) (v : Value) (n : Nat) (La : List (Bs × Ent)) : Prop where
  row : wr.ownsRow B 34 2 v n (eflat La)
  len : n = La.length
  ent : ∀ p ∈ La, EX wr p.2 ∧ (∀ k, p.2.v.ownBlock = some k → B ≤ k) ∧ p.1.length ≤ 40
structure OwB (W wr : World) (B : Nat) (v : Value) (n : Nat) (Lb : List (Bs × Ent)) : Prop where
  row : wr.ownsRow B 35 2 v n (eflat Lb)
  len : n = Lb.length
  ent : ∀ p ∈ Lb, RdB W p.2.v p.2.b ∧ p.2.n = p.2.b.length ∧ p.1.length ≤ 40
theorem OwA.low {wr w' : World} {B n : Nat} {v : Value} {La : List (Bs × Ent)} (h : OwA wr B v n La) (hb : Below wr.heap.size wr w') : OwA w' B v n La :=
  ⟨ownsRow_below h.row hb (Nat.le_refl _), h.len, fun p hp => ⟨(h.ent p hp).1.same fun k hk => hb.block k ((h.ent p hp).1.lt hk), (h.ent p hp).2⟩⟩
theorem OwA.grown {wr w' : World} {B n n' : Nat} {v v' : Value} {La Lb : List (Bs × Ent)} (h : OwA wr B v n La) (hr : wr.ownsRow B 35 2 v' n' (eflat Lb)) (hg : wr.grownBy w' v'.ownBlock) : OwA w' B v n La := by
  refine ⟨ownsRow_same h.row fun k hk => hg.block k (h.row.lt k hk).2 fun e => ownsRow_ty hr h.row (by decide) e.symm hk, h.len, fun p hp => ⟨(h.ent p hp).1.same fun k hk => hg.block k ((h.ent p hp).1.lt hk) fun e => ownsRow_ty hr (h.ent p hp).1.own (by decide) e.symm hk, (h.ent p hp).2⟩⟩
theorem OwB.low {W wr w' : World} {B n : Nat} {v : Value} {Lb : List (Bs × Ent)} (h : OwB W wr B v n Lb) (hb : Below wr.heap.size wr w') : OwB W w' B v n Lb := ⟨ownsRow_below h.row hb (Nat.le_refl _), h.len, h.ent⟩
theorem OwB.grown {W wr w' : World} {B n n' : Nat} {v v' : Value} {La Lb : List (Bs × Ent)} (h : OwB W wr B v n Lb) (hr : wr.ownsRow B 34 2 v' n' (eflat La)) (hg : wr.grownBy w' v'.ownBlock) : OwB W w' B v n Lb :=
  ⟨ownsRow_same h.row fun k hk => hg.block k (h.row.lt k hk).2 fun e => ownsRow_ty hr h.row (by decide) e.symm hk, h.len, h.ent⟩
def opX (L : List Opr) : List (Bs × Bs) := (L.take 12).map fun o => (o.name, o.b)
theorem opX_total {L : List Opr} (h : ∀ o ∈ L, o.b.length ≤ 300) : total (opX L) ≤ 3600 := by
  have key : ∀ (k : Nat) (L : List Opr), (∀ o ∈ L, o.b.length ≤ 300) → total ((L.take k).map fun o => (o.name, o.b)) ≤ 300 * k := by
    intro k
    induction k with
    | zero => intro L _; simp [total]
    | succ k ih =>
      intro L h
      cases L with
      | nil => simp [total]
      | cons o L =>
        rw [List.take_succ_cons, List.map_cons, total_cons]
        have := ih L fun o ho => h o (List.mem_cons_of_mem _ ho)
        have := h o (by simp)
        simp only
        omega
  exact key 12 L h
/-- both, or none -/
def OpBoth (W : World) (sv rv : Value) (lo : Nat) (w : World) : Prop := Below W.heap.size W w ∧ ((sv = .pointer none ∧ rv = .pointer none) ∨ ∃ sb rb S F G, sv = .pointer (some ⟨sb, 0, none⟩) ∧ rv = .pointer (some ⟨rb, 0, none⟩) ∧ Pr W w sb S F rb S G ∧ (∀ k ∈ F, lo ≤ k) ∧ (∀ k ∈ G, lo ≤ k))
theorem OpBoth.low {W w w' : World} {sv rv : Value} {lo : Nat} (h : OpBoth W sv rv lo w) (hb : Below w.heap.size w w') : OpBoth W sv rv lo w' := by
  obtain ⟨h1, h2⟩ := h
  refine ⟨h1.trans (hb.mono h1.size), ?_⟩
  rcases h2 with h2 | ⟨sb, rb, S, F, G, e1, e2, hp, hF, hG⟩
  · exact .inl h2
  · exact .inr ⟨sb, rb, S, F, G, e1, e2, hp.then hb, hF, hG⟩
theorem OpBoth.poke {W w : World} {sv rv : Value} {lo g : Nat} (h : OpBoth W sv rv lo w) (hg : g < lo) (hW : W.heap.size ≤ g) (j : Nat) (u : Value) : OpBoth W sv rv lo (w.setCell ⟨g, j, none⟩ u) := by
  obtain ⟨h1, h2⟩ := h
  refine ⟨h1.setCell (by show W.heap.size ≤ g; exact hW) _, ?_⟩
  rcases h2 with h2 | ⟨sb, rb, S, F, G, e1, e2, hp, hF, hG⟩
  · exact .inl h2
  · refine .inr ⟨sb, rb, S, F, G, e1, e2, (Pr.poke (X := []) (w1 := W) hp ⟨h1.os, h1.tape, h1.output, h1.size, fun k hk _ => h1.block k hk, fun k hk => .inr ?_⟩ hW (fun hm => by have := hF g hm; omega) (fun hm => by have := hG g hm; omega) j u hW).1, hF, hG⟩
    rcases List.mem_append.1 hk with hk | hk
    · exact hp.a.up k hk
    · exact hp.b.up k hk

set_option maxRecDepth 100000 in
set_option maxHeartbeats 3200000 in
theorem law_FsOpens (W : World) (room : Int) (lo : -9223372036854775808 ≤ room) (hi : room ≤ 9223372036854775807) (v : Value) (L : List Opr) (h : RdOps W v L) :
    Calls Try.prog 3 #[.int .i64 room, v] W fun e w' => e = .returned (.bool true) ∧ Below W.heap.size W w' := by
  obtain ⟨a, c, rfl⟩ := h.head
  have H := hide h
  clear h
  obtain ⟨iA, hiA, hyA0, hyA1, hyA2⟩ := info_parts fsFile_info
  obtain ⟨iF, hiF, hyF0, hyF1, hyF2⟩ := info_parts refFile_info
  go_enter Try.func3, Try.ntmps3
  go_wp2_with fail
  refine (law_heavy _ L W H.out).mono ?_
  rintro e w1 ⟨rfl | ⟨rfl, h50, hlight⟩, hb1⟩
  · have HB1 := hide hb1
    clear hb1
    go_wp2_with (refine (fs_known _).mono ?_; rintro e w' ⟨rfl, hb⟩; have HB := hide hb; clear hb)
    go_ret
    exact ⟨rfl, HB1.out.trans (HB.out.mono HB1.out.size)⟩
  have HB1 := hide hb1; have HLI := hide hlight
  clear hb1 hlight
  go_wp2_with fail
  refine (fs_known _).mono ?_
  rintro e w2 ⟨rfl, hb2⟩
  have HB2 := hide (HB1.out.trans (hb2.mono HB1.out.size))
  clear hb2 HB1
  obtain ⟨X, hX⟩ : ∃ X, X = opX L := ⟨_, rfl⟩
  have HX := hide hX
  have hXt : Hid (total X ≤ 3600) := hide (by rw [hX]; exact opX_total fun o ho => by rw [← (H.out.2.1 o ho).bn]; exact (HLI.out o ho).1)
  obtain ⟨ll, hll⟩ : ∃ ll, ll = L.length := ⟨_, rfl⟩
  rw [← hll] at h50 ⊢
  have HLL := hide hll
  have hXl : Hid (X.length = min 12 ll) := hide (by rw [hX]; unfold opX; rw [List.length_map, List.length_take, hll])
  have hws := HB2.out.size
  clear hX hll
  go_wp2_with fail
  go_loopw [5, 6, 7] (fun av bv iv wr => ∃ (i : Nat) (aa ba : Option Addr) (ac bc : Nat), av = .slice aa i ac ∧ bv = .slice ba i bc ∧ iv = .int .i64 i ∧ i ≤ ll ∧ i ≤ 12 ∧ Hid (∃ La Lb, OwA wr w2.heap.size (.slice aa i ac) i La ∧ OwB W wr w2.heap.size (.slice ba i bc) i Lb ∧ La.map ct = X.take i ∧ Lb.map ct = X.take i) ∧ Hid (Below w2.heap.size w2 wr)) (fun _ _ iv _ => match iv with | .int _ j => 12 - j.toNat | _ => 0)
  case atStart => exact ⟨0, none, none, 0, 0, rfl, rfl, rfl, Nat.zero_le _, Nat.zero_le _, hide ⟨[], [], ⟨World.ownsRow_nil _ _ _ _, rfl, fun p hp => by cases hp⟩, ⟨World.ownsRow_nil _ _ _ _, rfl, fun p hp => by cases hp⟩, by simp, by simp⟩, hide (Below.refl _ _)⟩
  case round =>
    obtain ⟨i, aa, ba, ac, bc, rfl, rfl, rfl, hil, hi12, hAB, hbw⟩ := hrel
    have hlowW : Hid (Below W.heap.size W wr) := hide (HB2.out.trans (hbw.out.mono hws))
    by_cases hgo : i < ll ∧ i < 12
    · obtain ⟨hg1, hg2⟩ := hgo
      have d1 : decide ((i : Int) < ll) = true := by simpa using hg1
      have d2 : decide ((i : Int) < 12) = true := decide_eq_true (by omega)
      have hin : i < L.length := by have := HLL.out; omega
      obtain ⟨bb, off, cc, o, he, hLo, hbb, hok, c0, c1, c2, c3, c4, c5, c6⟩ := (H.out).at hin
      simp only [Value.slice.injEq] at he
      obtain ⟨rfl, -, rfl⟩ := he
      have HOK := hide hok
      have HLO := hide (HLI.out o (by rw [← hLo]; exact List.getElem_mem hin))
      have hXi : Hid (X[i]? = some (o.name, o.b)) := hide (by
        rw [HX.out]
        unfold opX
        rw [List.getElem?_map, List.getElem?_take_of_lt hg2, List.getElem?_eq_getElem hin, hLo]
        rfl)
      have hcl : Hid (∀ w', Below W.heap.size W w' → w'.cell? ⟨bb, off + i * 7 + 1, none⟩ = some (.string ⟨o.name.toArray⟩) ∧ w'.cell? ⟨bb, off + i * 7 + 3, none⟩ = some (.slice o.ba o.bn o.bc)) := hide fun w' hw => ⟨(hw.cell (p := ⟨bb, _, none⟩) hbb).trans c1, (hw.cell (p := ⟨bb, _, none⟩) hbb).trans c3⟩
      have hwi : IntKind.i64.wrap ((i : Int) + 1) = (i : Int) + 1 := wrap64 (by omega) (by omega)
      have hbn := HLO.out.1
      have HBN := hide HOK.out.bn
      have hrb := hide (HOK.out.rb.low hlowW.out)
      clear hLo hok c0 c1 c2 c3 c4 c5 c6
      obtain ⟨c1, c3⟩ := hcl.out wr hlowW.out
      go_upto_region 10 with (at_builtin; refine wpList_clone_rd rfl (.tmp 30) (.tmp 35) 27 rfl 5 Try.underlying27 (by kernel_rfl) rfl (.slice o.ba o.bn o.bc) o.b rfl hrb.out (by have := HBN.out; omega) ?_; intro oa oc w5 hown hb5; rw [← HBN.out] at hown ⊢; have HOWN := hide hown; have HB5 := hide hb5; clear hown hb5)
      have hlow5 : Hid (Below W.heap.size W w5) := hide (hlowW.out.trans (HB5.out.mono hlowW.out.size))
      obtain ⟨La, Lb, hA, hB, hAc, hBc⟩ := hAB.out
      have HA := hide (hA.low HB5.out); have HB := hide (hB.low HB5.out); have HAC := hide hAc; have HBC := hide hBc
      have hbw5 : Hid (Below w2.heap.size w2 w5) := hide (hbw.out.trans (HB5.out.mono hbw.out.size))
      have hsz5 := hbw5.out.size
      clear hA hB hAc hBc c1 c3 hAB
      obtain ⟨c1, c3⟩ := hcl.out w5 hlow5.out
      have hrowA : Hid (∀ ob, (w5.alloc ob).ownsRow w2.heap.size 34 2 (.slice aa i ac) i (eflat La)) := hide fun ob => HA.out.row.alloc ob
      go_upto_region 11 with (at_builtin; refine wpList_append_rd rfl (.tmp 37) (.tmp 45) 25 rfl w2.heap.size 34 iA (.agg #[.string ⟨#[]⟩, .slice none 0 0]) 2 40 Try.underlying25 hiA hyA0 hyA1 hyA2 rfl (by decide) (.slice aa i ac) i _ rfl (hrowA.out _) (.slice (some ⟨w5.heap.size, 0, none⟩) 1 1) 1 [.string ⟨o.name.toArray⟩, .slice oa o.bn oc] rfl (rd_newE w5 #[.string ⟨o.name.toArray⟩, .slice oa o.bn oc] 34 w5.heap.size 1 2 rfl (by decide) rfl) (by simp [Value.oneCell']) (by unfold maxLen; omega) (by omega) (by simp; omega) ?_; intro v1 w6 hown hgr hnil hv; obtain ⟨oa1, oc1, rfl⟩ := slice_of_row hown; have HOW6 := hide hown; have HGR6 := hide hgr; clear hown hgr hnil hv)
      have hba := hide (below_alloc w5 (.cells #[.string ⟨o.name.toArray⟩, .slice oa o.bn oc] 34))
      have hrowA2 := hrowA.out (.cells #[.string ⟨o.name.toArray⟩, .slice oa o.bn oc] 34)
      have hA6 : Hid (OwA w6 w2.heap.size (.slice oa1 (i + 1) oc1) (i + 1) (La ++ [(o.name, (⟨o.b, oa, o.bn, oc⟩ : Ent))])) := hide (by
        have hk6 : ∀ (e : Ent), EX w5 e → EX w6 e := fun e he => (he.same fun k hk => hba.out.block k (he.lt hk)).same fun k hk => HGR6.out.block k (Nat.lt_of_lt_of_le (he.lt hk) hba.out.size) fun e9 => ownsRow_ty HA.out.row he.own (by decide) e9.symm hk
        refine ⟨by rw [eflat_append]; exact HOW6.out, by rw [List.length_append, ← HA.out.len]; rfl, fun p hp => ?_⟩
        rcases List.mem_append.1 hp with hp | hp
        · exact ⟨hk6 p.2 (HA.out.ent p hp).1, (HA.out.ent p hp).2⟩
        · rw [List.mem_singleton] at hp
          subst hp
          exact ⟨hk6 _ ⟨ownsRow_base HOWN.out (Nat.zero_le _), HBN.out⟩, fun k hk => Nat.le_trans hbw.out.size (HOWN.out.lt k hk).1, HLO.out.2.1⟩)
      have hB6 : Hid (OwB W w6 w2.heap.size (.slice ba i bc) i Lb) := hide ((HB.out.low hba.out).grown hrowA2 HGR6.out)
      have hbw6 : Hid (Below w2.heap.size w2 w6) := hide ((hbw5.out.trans (hba.out.mono hbw5.out.size)).grown HGR6.out (Nat.le_trans hbw5.out.size hba.out.size) fun k hk => (HA.out.row.lt k hk).1)
      have hlow6 : Hid (Below W.heap.size W w6) := hide (HB2.out.trans (hbw6.out.mono hws))
      have hcl6 : Hid (∀ w', w6.grownBy w' (Value.slice ba i bc).ownBlock → w'.cell? ⟨bb, off + i * 7 + 1, none⟩ = some (.string ⟨o.name.toArray⟩) ∧ w'.cell? ⟨bb, off + i * 7 + 3, none⟩ = some (.slice o.ba o.bn o.bc)) := hide fun w' hg => hcl.out w' (hlow6.out.grown hg hlow6.out.size fun k hk => by have := (hB6.out.row.lt k hk).1; omega)
      clear hba hrowA2 hrowA HGR6 HOW6 c1 c3 HA HB HOWN HB5
      have hs6 := hbw6.out.size
      go_wp2_with fail
      refine wp_region_three 15 115 (by kernel_rfl) (by kernel_rfl) rfl (by kernel_rfl) (fun D v w' => FlS w2.heap.size w6 (.slice ba i bc) i Lb o.name (.slice o.ba o.bn o.bc) D v w') (fun _ => undef) (FlS.start hB6.out.row) ?_
      simp only [List.take_succ_cons, List.take_zero, List.drop_succ_cons, List.drop_zero]
      iterate 12 (refine Hav3.read (e := ?_) (fun v => by rfl) (fun D v w h => ⟨h.g, h.q, h.s, h.a, h.e⟩) (fun D v w' hD hS => ?_) ?_; rotate_left; (obtain ⟨c1, c3⟩ := hcl6.out w' hS.g; clear hS hD; first | (go_simp; done) | (go_simp; with_reducible rfl)); go_simp)
      refine Hav3.rel (fun v => by rfl) (fun D v w' hD hS => ?_) ?_
      · have d13 : D 13 = false := hD.post 13 _ rfl (by kernel_rfl)
        have HS3 := hide (hS.made d13)
        clear hS hD
        go_simp
        exact HS3.out
      go_simp
      refine Hav3.rel (fun v => by rfl) (fun D v w' hD hS => ?_) ?_
      · have d12 : D 12 = true := hD.pre 12 (by kernel_rfl)
        have d13 : D 13 = false := hD.self
        have D14 : Hid (D 14 = false) := hide (hD.post 14 _ rfl (by kernel_rfl))
        obtain ⟨g', h9, hrd, hge⟩ := hS.s d12
        have hq := hide (hS.q d13)
        have hsz := hS.g.size
        have HS3 := hide hS
        rw [h9] at hrd
        have HRD := hide hrd
        rw [h9]
        clear hS hD h9
        refine wp_append_rd _ _ 26 rfl w2.heap.size 35 iF (.agg #[.string ⟨#[]⟩, .slice none 0 0]) 2 40 Try.underlying26 hiF hyF0 hyF1 hyF2 rfl (by decide) _ i (eflat Lb) rfl hq.out _ 1 [.string ⟨o.name.toArray⟩, .slice o.ba o.bn o.bc] rfl HRD.out (by simp [Value.oneCell']) (by unfold maxLen; omega) (by omega) (by omega) ?_
        intro v' w'' h1 h2 h3 h4
        exact ⟨v', rfl, HS3.out.appended d12 (fun e => by rw [D14.out] at e; cases e) hB6.out.row h1 h2 h4, trivial⟩
      go_simp
      refine Hav3.rel (fun v => by rfl) (fun D v w' hD hS => ?_) ?_
      · have d13 : D 13 = true := hD.pre 13 (by kernel_rfl)
        have HS3 : Hid (FlS w2.heap.size w6 (.slice ba i bc) i Lb o.name (.slice o.ba o.bn o.bc) (mark D 14) (setv v 14 (v 13)) w') := hide ⟨hS.g, hS.q, hS.s, hS.a, fun _ => ⟨d13, rfl⟩⟩
        clear hS hD
        go_simp
        exact HS3.out
      go_simp
      refine Hav3.fin (fun v w7 hS => ?_)
      obtain ⟨ba1, bc1, h10, hrow2, hblk⟩ := (hS.a rfl).2
      have h11 := (hS.e rfl).2
      rw [h10] at hrow2 hblk h11
      have hA7 := hide (hA6.out.grown hB6.out.row hS.g)
      have hB7 : Hid (OwB W w7 w2.heap.size (.slice ba1 (i + 1) bc1) (i + 1) (Lb ++ [(o.name, (⟨o.b, o.ba, o.bn, o.bc⟩ : Ent))])) := hide ⟨by rw [eflat_append]; exact hrow2, by rw [List.length_append, ← hB6.out.len]; rfl, fun p hp => by
        rcases List.mem_append.1 hp with hp | hp
        · exact hB6.out.ent p hp
        · rw [List.mem_singleton] at hp
          subst hp
          exact ⟨HOK.out.rb, HOK.out.bn, HLO.out.2.1⟩⟩
      have hbw7 : Hid (Below w2.heap.size w2 w7) := hide (hbw6.out.grown hS.g hs6 fun k hk => (hB6.out.row.lt k hk).1)
      have hct : Hid ((La ++ [(o.name, (⟨o.b, oa, o.bn, oc⟩ : Ent))]).map ct = X.take (i + 1) ∧ (Lb ++ [(o.name, (⟨o.b, o.ba, o.bn, o.bc⟩ : Ent))]).map ct = X.take (i + 1)) := hide (by
        rw [List.take_add_one, hXi.out, List.map_append, List.map_append, HAC.out, HBC.out]
        exact ⟨rfl, rfl⟩)
      rw [h11]
      clear hS hrow2 hblk h10 h11
      go_wp2
      refine ⟨⟨i + 1, oa1, ba1, oc1, bc1, rfl, rfl, by simp, hg1, hg2, hide ⟨_, _, hA7.out, hB7.out, hct.out⟩, hbw7⟩, ?_⟩
      show 12 - ((i : Int) + 1).toNat < 12 - ((i : Nat) : Int).toNat
      omega
    · have him : Hid (i = X.length) := hide (by rw [hXl.out]; omega)
      obtain ⟨La, Lb, hA, hB, hAc, hBc⟩ := hAB.out
      have hAc2 : Hid (La.map ct = X) := hide (by rw [hAc, him.out, List.take_length])
      have hBc2 : Hid (Lb.map ct = X) := hide (by rw [hBc, him.out, List.take_length])
      have HA := hide hA; have HB := hide hB
      have hRA : Hid (RdFs wr (.slice aa i ac) La) := hide ⟨by rw [← hA.len]; exact ownsRow_rd hA.row, fun p hp => ⟨(hA.ent p hp).1.rd, (hA.ent p hp).1.n, by have := (hA.ent p hp).2.2; unfold maxLen; omega⟩⟩
      have hRB : Hid (RdFs wr (.slice ba i bc) Lb) := hide ⟨by rw [← hB.len]; exact ownsRow_rd hB.row, fun p hp => ⟨(hB.ent p hp).1.low hlowW.out, (hB.ent p hp).2.1, by have := (hB.ent p hp).2.2; unfold maxLen; omega⟩⟩
      have hk0 : ∀ {p : Prop}, p → p := fun h => h
      have hcond : (i < ll ∧ ¬ i < 12) ∨ ¬ i < ll := by omega
      clear hA hB hAc hBc hAB
      rcases hcond with ⟨g1, g2⟩ | g1
      · have d1 : decide ((i : Int) < ll) = true := by simpa using g1
        have d2 : decide ((i : Int) < 12) = false := decide_eq_false (by omega)
        clear hk0
        go_wp2_with fail
        refine (fs_Open room lo hi aa i ac La wr hRA.out HA.out.len hi12 (by rw [hAc2.out]; have := hXt.out; omega)).mono ?_
        rintro e w5 ⟨hb5, ht5⟩
        rw [hAc2.out] at ht5
        obtain ⟨sv, rfl, hsv⟩ : ∃ sv, e = .returned sv ∧ ((opFails room X ∧ sv = .pointer none) ∨ (opWorks room X ∧ ∃ sb F, sv = .pointer (some ⟨sb, 0, none⟩) ∧ FsRep w5 sb (opS room X X.length) F ∧ ∀ k ∈ F, wr.heap.size ≤ k)) := by
          rcases ht5 with ⟨h1, h2⟩ | ⟨h1, sb, F, h2, h3, h4⟩
          · exact ⟨_, h2, .inl ⟨h1, rfl⟩⟩
          · exact ⟨_, h2, .inr ⟨h1, sb, F, rfl, h3, h4⟩⟩
        have HSV := hide hsv; have HB5 := hide hb5
        clear ht5 hsv hb5
        go_wp2_with fail
        refine (rf_Open room lo hi ba i bc Lb w5 (hRB.out.low HB5.out) HB.out.len hi12 (by rw [hBc2.out]; have := hXt.out; omega)).mono ?_
        rintro e w6 ⟨hb6, ht6⟩
        rw [hBc2.out] at ht6
        obtain ⟨rv, rfl, hrv⟩ : ∃ rv, e = .returned rv ∧ ((opFails room X ∧ rv = .pointer none) ∨ (opWorks room X ∧ ∃ rb G, rv = .pointer (some ⟨rb, 0, none⟩) ∧ RfRep w6 rb (opS room X X.length) G ∧ ∀ k ∈ G, w5.heap.size ≤ k)) := by
          rcases ht6 with ⟨h1, h2⟩ | ⟨h1, sb, F, h2, h3, h4⟩
          · exact ⟨_, h2, .inl ⟨h1, rfl⟩⟩
          · exact ⟨_, h2, .inr ⟨h1, sb, F, rfl, h3, h4⟩⟩
        have hst : Hid (OpBoth W sv rv wr.heap.size w6 ∧ w6.ownsRow w2.heap.size 34 2 (.slice aa i ac) i (eflat La) ∧ ∀ p ∈ La, U8Blk w6 p.2) := hide (by
          have hlow6 : Below wr.heap.size wr w6 := HB5.out.trans (hb6.mono HB5.out.size)
          have hlowW6 : Below W.heap.size W w6 := hlowW.out.trans (hlow6.mono hlowW.out.size)
          refine ⟨⟨hlowW6, ?_⟩, ownsRow_below HA.out.row hlow6 (Nat.le_refl _), fun p hp => ((HA.out.ent p hp).1.u8).same fun k hk => hlow6.block k ((HA.out.ent p hp).1.lt hk)⟩
          rcases HSV.out with ⟨h1, h2⟩ | ⟨h1, sb, F, h2, h3, h4⟩
          · rcases hrv with ⟨k1, k2⟩ | ⟨k1, _⟩
            · exact .inl ⟨h2, k2⟩
            · exact (op_apart h1 k1).elim
          · rcases hrv with ⟨k1, _⟩ | ⟨_, rb, G, k2, k3, k4⟩
            · exact (op_apart k1 h1).elim
            · have hs5 := HB5.out.size
              have hsW := hlowW.out.size
              exact .inr ⟨sb, rb, _, F, G, h2, k2, ⟨⟨h3.low hb6, fun k hk => Nat.le_trans hsW (h4 k hk), hlowW6, opS_ok h1⟩, ⟨k3, fun k hk => by have := k4 k hk; omega, hlowW6, opS_ok h1⟩, fun k hk hm => by have := k4 k hm; have := h3.lt k hk; omega⟩, h4, fun k hk => by have := k4 k hk; omega⟩)
        have hbs : Hid (∀ p ∈ La, ∀ g o, p.2.a = some ⟨g, o, none⟩ → W.heap.size ≤ g ∧ g < wr.heap.size) := hide fun p hp g o hg => by
          have hob : p.2.v.ownBlock = some g := by show (Value.slice p.2.a p.2.n p.2.c).ownBlock = some g; rw [hg]; rfl
          have h1 := (HA.out.ent p hp).2.1 g hob
          exact ⟨by omega, (HA.out.ent p hp).1.lt hob⟩
        have HLA := hide HA.out.len
        have hen : Hid (∀ p ∈ La, p.2.n ≤ 3600) := hide fun p hp => by
          have h1 : p.2.b.length ≤ total (La.map ct) := by
            have h2 : ct p ∈ La.map ct := List.mem_map_of_mem hp
            obtain ⟨A, B, h3⟩ := List.append_of_mem h2
            rw [h3, total_append, total_cons]
            show p.2.b.length ≤ total A + ((ct p).2.length + total B)
            show p.2.b.length ≤ total A + (p.2.b.length + total B)
            omega
          rw [hAc2.out] at h1
          have := hXt.out
          have := (HA.out.ent p hp).1.n
          omega
        obtain ⟨lo9, hlo9⟩ : ∃ lo9, lo9 = wr.heap.size := ⟨_, rfl⟩
        rw [← hlo9] at hst hbs
        clear hrv ht6 HSV HB5 hb6 HA HB hRA hRB hlowW hbw hlo9
        go_wp2_with fail
        go_loopw [11] (fun kv wr => ∃ k : Nat, kv = .int .i64 k ∧ k ≤ i ∧ Hid (OpBoth W sv rv lo9 wr ∧ wr.ownsRow w2.heap.size 34 2 (.slice aa i ac) i (eflat La) ∧ ∀ p ∈ La, U8Blk wr p.2)) (fun kv _ => match kv with | .int _ j => i - j.toNat | _ => 0)
        case atStart => exact ⟨0, rfl, Nat.zero_le _, hst⟩
        case round =>
          clear hst
          obtain ⟨k, rfl, hki, hst⟩ := hrel
          by_cases hkl : k < i
          · have d8 : decide ((k : Int) < i) = true := by simpa using hkl
            have hwk : IntKind.i64.wrap ((k : Int) + 1) = (k : Int) + 1 := wrap64 (by omega) (by omega)
            obtain ⟨p, hp⟩ : ∃ p, La[k]? = some p := ⟨_, List.getElem?_eq_getElem (by have := HLA.out; omega)⟩
            have hpm := hide (List.mem_of_getElem? hp)
            have HP := hide hp
            obtain ⟨gr, hgr, _⟩ := erow_get hst.out.2.1 HLA.out hp
            subst hgr
            have hpn := hen.out p hpm.out
            obtain ⟨pk, pb, xa, xn, xc⟩ := p
            simp only at hpn
            clear hp
            go_wp2_with fail
            go_loopw [12] (fun jv wr => ∃ j : Nat, jv = .int .i64 j ∧ j ≤ xn ∧ Hid (OpBoth W sv rv lo9 wr ∧ wr.ownsRow w2.heap.size 34 2 (.slice (some ⟨gr, 0, none⟩) i ac) i (eflat La) ∧ ∀ p ∈ La, U8Blk wr p.2)) (fun jv _ => match jv with | .int _ j => xn - j.toNat | _ => 0)
            case atStart => exact ⟨0, rfl, Nat.zero_le _, hst⟩
            case round =>
              clear hst
              obtain ⟨j, rfl, hjx, hst⟩ := hrel
              obtain ⟨g', hg', _, c1, _, _⟩ := erow_get hst.out.2.1 HLA.out HP.out
              simp only [Option.some.injEq, Addr.mk.injEq, and_true] at hg'
              obtain rfl := hg'
              simp only at c1
              by_cases hjl : j < xn
              · have d9 : decide ((j : Int) < xn) = true := by simpa using hjl
                have hwj : IntKind.i64.wrap ((j : Int) + 1) = (j : Int) + 1 := wrap64 (by omega) (by omega)
                obtain ⟨gb, cur, z, hga, hgb, hz, hz2⟩ := hst.out.2.2 _ hpm.out j hjl
                simp only at hga
                subst hga
                have hgbb := hbs.out _ hpm.out gb 0 rfl
                have HZ := hide (show bits .xor .u8 (z : Int) 255 = ((z ^^^ 255 : Nat) : Int) from u8_xor_nat z 255 hz2 (by omega))
                have hz3 : z ^^^ 255 < 256 := Nat.xor_lt_two_pow (n := 8) hz2 (by omega)
                have hgrl := (hst.out.2.1.lt gr rfl).2
                have hgbl := (Array.getElem?_eq_some_iff.1 hgb).1
                have hcells : Hid (∀ w', Below wr.heap.size wr w' → w'.cell? ⟨gr, k * 2 + 1, none⟩ = some (.slice (some ⟨gb, 0, none⟩) xn xc) ∧ w'.cell? ⟨gb, j, none⟩ = some (.int .u8 (z : Nat)) ∧ w'.frozen? ⟨gb, j, none⟩ = false) := hide fun w' hw => by
                  have h2 := (hw.block gb hgbl).trans hgb
                  exact ⟨(hw.cell (p := ⟨gr, _, none⟩) hgrl).trans c1, by simp [World.cell?, h2, hz], by simp [World.frozen?, h2]⟩
                have hlen := hst.out.2.1
                clear hgb hz c1 hlen
                obtain ⟨c1, _, _⟩ := hcells.out wr (Below.refl _ _)
                go_wp2_with fail
                refine wp_region_three 16 115 (by kernel_rfl) (by kernel_rfl) rfl (by kernel_rfl) (fun D v w' => Below wr.heap.size wr w') (fun _ => undef) (Below.refl _ _).drew ?_
                simp only [List.take_succ_cons, List.take_zero, List.drop_succ_cons, List.drop_zero]
                iterate 16 (refine Hav3.read (e := ?_) (fun v => by rfl) (fun D v w h => h) (fun D v w' hD hS => ?_) ?_; rotate_left; (obtain ⟨x0, x1, x2⟩ := hcells.out w' hS; clear hS hD; first | (go_simp; done) | (go_simp; with_reducible rfl)); go_simp)
                refine Hav3.fin (fun v w7 hS => ?_)
                obtain ⟨x0, x1, x2⟩ := hcells.out w7 hS
                have hst2 : Hid (OpBoth W sv rv lo9 (w7.setCell ⟨gb, j, none⟩ (.int .u8 ((z ^^^ 255 : Nat) : Nat))) ∧ (w7.setCell ⟨gb, j, none⟩ (.int .u8 ((z ^^^ 255 : Nat) : Nat))).ownsRow w2.heap.size 34 2 (.slice (some ⟨gr, 0, none⟩) i ac) i (eflat La) ∧ ∀ p ∈ La, U8Blk (w7.setCell ⟨gb, j, none⟩ (.int .u8 ((z ^^^ 255 : Nat) : Nat))) p.2) := hide (by
                  obtain ⟨h1, h2, h3⟩ := hst.out
                  have h1' : OpBoth W sv rv lo9 w7 := h1.low hS
                  have hgne : gr ≠ gb := fun e => by
                    subst e
                    obtain ⟨_, cur2, _, h4, h5, _⟩ := h3 _ hpm.out j hjl
                    obtain ⟨cur3, h6⟩ := ownsRow_blk h2 rfl
                    simp only [Option.some.injEq, Addr.mk.injEq, and_true] at h4
                    subst h4
                    rw [h6] at h5
                    simp only [Option.some.injEq, Obj.cells.injEq] at h5
                    exact absurd h5.2.1 (by decide)
                  refine ⟨h1'.poke hgbb.2 hgbb.1 _ _, ownsRow_same (ownsRow_below h2 hS (Nat.le_refl _)) fun b hb => heap_set_ne fun e => hgne ((show gr = b by simpa [Value.ownBlock] using hb).trans e), fun p hp => ((h3 p hp).low hS).set gb j _ hz3⟩)
                clear hS hst
                go_wp2
                rw [HZ.out]
                refine ⟨⟨j + 1, by simp, hjl, hst2⟩, ?_⟩
                show xn - ((j : Int) + 1).toNat < xn - ((j : Nat) : Int).toNat
                omega
              · have d9 : decide ((j : Int) < xn) = false := decide_eq_false (by omega)
                go_wp2
                refine ⟨⟨k + 1, by simp, hkl, hst⟩, ?_⟩
                show i - ((k : Int) + 1).toNat < i - ((k : Nat) : Int).toNat
                omega
          · have d8 : decide ((k : Int) < i) = false := decide_eq_false (by omega)
            obtain ⟨hlw, hcase⟩ := hst.out.1
            have HLW := hide hlw
            clear hst hlw
            rcases hcase with ⟨rfl, rfl⟩ | ⟨sb, rb, S, F, G, rfl, rfl, hp, _, _⟩
            · go_wp2
              go_ret
              exact ⟨rfl, HLW.out⟩
            · have HP := hide hp
              clear hp
              go_wp2_with fail
              refine (law_Same sb rb S F G W wr HP.out).mono ?_
              rintro e w9 ⟨rfl, hb9⟩
              have HB9 := hide (HLW.out.trans (hb9.mono HLW.out.size))
              clear hb9
              go_wp2
              go_ret
              exact ⟨rfl, HB9.out⟩
      · have d1 : decide ((i : Int) < ll) = false := decide_eq_false (by omega)
        clear hk0
        go_wp2_with fail
        refine (fs_Open room lo hi aa i ac La wr hRA.out HA.out.len hi12 (by rw [hAc2.out]; have := hXt.out; omega)).mono ?_
        rintro e w5 ⟨hb5, ht5⟩
        rw [hAc2.out] at ht5
        obtain ⟨sv, rfl, hsv⟩ : ∃ sv, e = .returned sv ∧ ((opFails room X ∧ sv = .pointer none) ∨ (opWorks room X ∧ ∃ sb F, sv = .pointer (some ⟨sb, 0, none⟩) ∧ FsRep w5 sb (opS room X X.length) F ∧ ∀ k ∈ F, wr.heap.size ≤ k)) := by
          rcases ht5 with ⟨h1, h2⟩ | ⟨h1, sb, F, h2, h3, h4⟩
          · exact ⟨_, h2, .inl ⟨h1, rfl⟩⟩
          · exact ⟨_, h2, .inr ⟨h1, sb, F, rfl, h3, h4⟩⟩
        have HSV := hide hsv; have HB5 := hide hb5
        clear ht5 hsv hb5
        go_wp2_with fail
        refine (rf_Open room lo hi ba i bc Lb w5 (hRB.out.low HB5.out) HB.out.len hi12 (by rw [hBc2.out]; have := hXt.out; omega)).mono ?_
        rintro e w6 ⟨hb6, ht6⟩
        rw [hBc2.out] at ht6
        obtain ⟨rv, rfl, hrv⟩ : ∃ rv, e = .returned rv ∧ ((opFails room X ∧ rv = .pointer none) ∨ (opWorks room X ∧ ∃ rb G, rv = .pointer (some ⟨rb, 0, none⟩) ∧ RfRep w6 rb (opS room X X.length) G ∧ ∀ k ∈ G, w5.heap.size ≤ k)) := by
          rcases ht6 with ⟨h1, h2⟩ | ⟨h1, sb, F, h2, h3, h4⟩
          · exact ⟨_, h2, .inl ⟨h1, rfl⟩⟩
          · exact ⟨_, h2, .inr ⟨h1, sb, F, rfl, h3, h4⟩⟩
        have hst : Hid (OpBoth W sv rv wr.heap.size w6 ∧ w6.ownsRow w2.heap.size 34 2 (.slice aa i ac) i (eflat La) ∧ ∀ p ∈ La, U8Blk w6 p.2) := hide (by
          have hlow6 : Below wr.heap.size wr w6 := HB5.out.trans (hb6.mono HB5.out.size)
          have hlowW6 : Below W.heap.size W w6 := hlowW.out.trans (hlow6.mono hlowW.out.size)
          refine ⟨⟨hlowW6, ?_⟩, ownsRow_below HA.out.row hlow6 (Nat.le_refl _), fun p hp => ((HA.out.ent p hp).1.u8).same fun k hk => hlow6.block k ((HA.out.ent p hp).1.lt hk)⟩
          rcases HSV.out with ⟨h1, h2⟩ | ⟨h1, sb, F, h2, h3, h4⟩
          · rcases hrv with ⟨k1, k2⟩ | ⟨k1, _⟩
            · exact .inl ⟨h2, k2⟩
            · exact (op_apart h1 k1).elim
          · rcases hrv with ⟨k1, _⟩ | ⟨_, rb, G, k2, k3, k4⟩
            · exact (op_apart k1 h1).elim
            · have hs5 := HB5.out.size
              have hsW := hlowW.out.size
              exact .inr ⟨sb, rb, _, F, G, h2, k2, ⟨⟨h3.low hb6, fun k hk => Nat.le_trans hsW (h4 k hk), hlowW6, opS_ok h1⟩, ⟨k3, fun k hk => by have := k4 k hk; omega, hlowW6, opS_ok h1⟩, fun k hk hm => by have := k4 k hm; have := h3.lt k hk; omega⟩, h4, fun k hk => by have := k4 k hk; omega⟩)
        have hbs : Hid (∀ p ∈ La, ∀ g o, p.2.a = some ⟨g, o, none⟩ → W.heap.size ≤ g ∧ g < wr.heap.size) := hide fun p hp g o hg => by
          have hob : p.2.v.ownBlock = some g := by show (Value.slice p.2.a p.2.n p.2.c).ownBlock = some g; rw [hg]; rfl
          have h1 := (HA.out.ent p hp).2.1 g hob
          exact ⟨by omega, (HA.out.ent p hp).1.lt hob⟩
        have HLA := hide HA.out.len
        have hen : Hid (∀ p ∈ La, p.2.n ≤ 3600) := hide fun p hp => by
          have h1 : p.2.b.length ≤ total (La.map ct) := by
            have h2 : ct p ∈ La.map ct := List.mem_map_of_mem hp
            obtain ⟨A, B, h3⟩ := List.append_of_mem h2
            rw [h3, total_append, total_cons]
            show p.2.b.length ≤ total A + ((ct p).2.length + total B)
            show p.2.b.length ≤ total A + (p.2.b.length + total B)
            omega
          rw [hAc2.out] at h1
          have := hXt.out
          have := (HA.out.ent p hp).1.n
          omega
        obtain ⟨lo9, hlo9⟩ : ∃ lo9, lo9 = wr.heap.size := ⟨_, rfl⟩
        rw [← hlo9] at hst hbs
        clear hrv ht6 HSV HB5 hb6 HA HB hRA hRB hlowW hbw hlo9
        go_wp2_with fail
        go_loopw [11] (fun kv wr => ∃ k : Nat, kv = .int .i64 k ∧ k ≤ i ∧ Hid (OpBoth W sv rv lo9 wr ∧ wr.ownsRow w2.heap.size 34 2 (.slice aa i ac) i (eflat La) ∧ ∀ p ∈ La, U8Blk wr p.2)) (fun kv _ => match kv with | .int _ j => i - j.toNat | _ => 0)
        case atStart => exact ⟨0, rfl, Nat.zero_le _, hst⟩
        case round =>
          clear hst
          obtain ⟨k, rfl, hki, hst⟩ := hrel
          by_cases hkl : k < i
          · have d8 : decide ((k : Int) < i) = true := by simpa using hkl
            have hwk : IntKind.i64.wrap ((k : Int) + 1) = (k : Int) + 1 := wrap64 (by omega) (by omega)
            obtain ⟨p, hp⟩ : ∃ p, La[k]? = some p := ⟨_, List.getElem?_eq_getElem (by have := HLA.out; omega)⟩
            have hpm := hide (List.mem_of_getElem? hp)
            have HP := hide hp
            obtain ⟨gr, hgr, _⟩ := erow_get hst.out.2.1 HLA.out hp
            subst hgr
            have hpn := hen.out p hpm.out
            obtain ⟨pk, pb, xa, xn, xc⟩ := p
            simp only at hpn
            clear hp
            go_wp2_with fail
            go_loopw [12] (fun jv wr => ∃ j : Nat, jv = .int .i64 j ∧ j ≤ xn ∧ Hid (OpBoth W sv rv lo9 wr ∧ wr.ownsRow w2.heap.size 34 2 (.slice (some ⟨gr, 0, none⟩) i ac) i (eflat La) ∧ ∀ p ∈ La, U8Blk wr p.2)) (fun jv _ => match jv with | .int _ j => xn - j.toNat | _ => 0)
            case atStart => exact ⟨0, rfl, Nat.zero_le _, hst⟩
            case round =>
              clear hst
              obtain ⟨j, rfl, hjx, hst⟩ := hrel
              obtain ⟨g', hg', _, c1, _, _⟩ := erow_get hst.out.2.1 HLA.out HP.out
              simp only [Option.some.injEq, Addr.mk.injEq, and_true] at hg'
              obtain rfl := hg'
              simp only at c1
              by_cases hjl : j < xn
              · have d9 : decide ((j : Int) < xn) = true := by simpa using hjl
                have hwj : IntKind.i64.wrap ((j : Int) + 1) = (j : Int) + 1 := wrap64 (by omega) (by omega)
                obtain ⟨gb, cur, z, hga, hgb, hz, hz2⟩ := hst.out.2.2 _ hpm.out j hjl
                simp only at hga
                subst hga
                have hgbb := hbs.out _ hpm.out gb 0 rfl
                have HZ := hide (show bits .xor .u8 (z : Int) 255 = ((z ^^^ 255 : Nat) : Int) from u8_xor_nat z 255 hz2 (by omega))
                have hz3 : z ^^^ 255 < 256 := Nat.xor_lt_two_pow (n := 8) hz2 (by omega)
                have hgrl := (hst.out.2.1.lt gr rfl).2
                have hgbl := (Array.getElem?_eq_some_iff.1 hgb).1
                have hcells : Hid (∀ w', Below wr.heap.size wr w' → w'.cell? ⟨gr, k * 2 + 1, none⟩ = some (.slice (some ⟨gb, 0, none⟩) xn xc) ∧ w'.cell? ⟨gb, j, none⟩ = some (.int .u8 (z : Nat)) ∧ w'.frozen? ⟨gb, j, none⟩ = false) := hide fun w' hw => by
                  have h2 := (hw.block gb hgbl).trans hgb
                  exact ⟨(hw.cell (p := ⟨gr, _, none⟩) hgrl).trans c1, by simp [World.cell?, h2, hz], by simp [World.frozen?, h2]⟩
                have hlen := hst.out.2.1
                clear hgb hz c1 hlen
                obtain ⟨c1, _, _⟩ := hcells.out wr (Below.refl _ _)
                go_wp2_with fail
                refine wp_region_three 16 115 (by kernel_rfl) (by kernel_rfl) rfl (by kernel_rfl) (fun D v w' => Below wr.heap.size wr w') (fun _ => undef) (Below.refl _ _).drew ?_
                simp only [List.take_succ_cons, List.take_zero, List.drop_succ_cons, List.drop_zero]
                iterate 16 (refine Hav3.read (e := ?_) (fun v => by rfl) (fun D v w h => h) (fun D v w' hD hS => ?_) ?_; rotate_left; (obtain ⟨x0, x1, x2⟩ := hcells.out w' hS; clear hS hD; first | (go_simp; done) | (go_simp; with_reducible rfl)); go_simp)
                refine Hav3.fin (fun v w7 hS => ?_)
                obtain ⟨x0, x1, x2⟩ := hcells.out w7 hS
                have hst2 : Hid (OpBoth W sv rv lo9 (w7.setCell ⟨gb, j, none⟩ (.int .u8 ((z ^^^ 255 : Nat) : Nat))) ∧ (w7.setCell ⟨gb, j, none⟩ (.int .u8 ((z ^^^ 255 : Nat) : Nat))).ownsRow w2.heap.size 34 2 (.slice (some ⟨gr, 0, none⟩) i ac) i (eflat La) ∧ ∀ p ∈ La, U8Blk (w7.setCell ⟨gb, j, none⟩ (.int .u8 ((z ^^^ 255 : Nat) : Nat))) p.2) := hide (by
                  obtain ⟨h1, h2, h3⟩ := hst.out
                  have h1' : OpBoth W sv rv lo9 w7 := h1.low hS
                  have hgne : gr ≠ gb := fun e => by
                    subst e
                    obtain ⟨_, cur2, _, h4, h5, _⟩ := h3 _ hpm.out j hjl
                    obtain ⟨cur3, h6⟩ := ownsRow_blk h2 rfl
                    simp only [Option.some.injEq, Addr.mk.injEq, and_true] at h4
                    subst h4
                    rw [h6] at h5
                    simp only [Option.some.injEq, Obj.cells.injEq] at h5
                    exact absurd h5.2.1 (by decide)
                  refine ⟨h1'.poke hgbb.2 hgbb.1 _ _, ownsRow_same (ownsRow_below h2 hS (Nat.le_refl _)) fun b hb => heap_set_ne fun e => hgne ((show gr = b by simpa [Value.ownBlock] using hb).trans e), fun p hp => ((h3 p hp).low hS).set gb j _ hz3⟩)
                clear hS hst
                go_wp2
                rw [HZ.out]
                refine ⟨⟨j + 1, by simp, hjl, hst2⟩, ?_⟩
                show xn - ((j : Int) + 1).toNat < xn - ((j : Nat) : Int).toNat
                omega
              · have d9 : decide ((j : Int) < xn) = false := decide_eq_false (by omega)
                go_wp2
                refine ⟨⟨k + 1, by simp, hkl, hst⟩, ?_⟩
                show i - ((k : Int) + 1).toNat < i - ((k : Nat) : Int).toNat
                omega
          · have d8 : decide ((k : Int) < i) = false := decide_eq_false (by omega)
            obtain ⟨hlw, hcase⟩ := hst.out.1
            have HLW := hide hlw
            clear hst hlw
            rcases hcase with ⟨rfl, rfl⟩ | ⟨sb, rb, S, F, G, rfl, rfl, hp, _, _⟩
            · go_wp2
              go_ret
              exact ⟨rfl, HLW.out⟩
            · have HP := hide hp
              clear hp
              go_wp2_with fail
              refine (law_Same sb rb S F G W wr HP.out).mono ?_
              rintro e w9 ⟨rfl, hb9⟩
              have HB9 := hide (HLW.out.trans (hb9.mono HLW.out.size))
              clear hb9
              go_wp2
              go_ret
              exact ⟨rfl, HB9.out⟩
end Go.Proofs.Ytcgkhocmlolknaa
