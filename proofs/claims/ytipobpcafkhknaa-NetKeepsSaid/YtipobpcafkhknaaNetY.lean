/-
  Take, on both networks.
-/
import Derived.Test.YtipobpcafkhknaaNetX
namespace Go.Proofs.Ytipobpcafkhknaa
open Go.RowKit
set_option linter.unusedVariables false
set_option linter.unusedSimpArgs false

/-- what was taken: its bytes stand in a row of their own -/
structure Held (w' : World) (o : Option G) (t : Int) (ax : Option Addr) (bs : List UInt8) (cx : Nat) : Prop where
  own : w'.ownsRow 0 5 1 (.slice ax bs.length cx) bs.length (bcells bs)
  some : ∀ g, o = some g → t = g.to ∧ bs = g.b
  none : o = none → t = 0 ∧ bs = [] ∧ ax = none ∧ cx = 0

def NetTook (w : World) (nb : Nat) (l : List G) (F : List Nat) (i : Int) (e : Ending) (w' : World) : Prop :=
  ∃ t ax bs cx F', e = .returned (.tuple #[.agg #[.int .u8 t, .slice ax bs.length cx], .bool (atG l i).isSome]) ∧ NetRep w' nb (dropS l i).1 F' ∧ Held w' (atG l i) t ax bs cx ∧
    (∀ q, (Value.slice ax bs.length cx).ownBlock = some q → q ∉ F') ∧ Chg F ((Value.slice ax bs.length cx).ownBlock.toList ++ F') w w'
def RefTook (w : World) (rb : Nat) (l : List G) (F : List Nat) (i : Int) (e : Ending) (w' : World) : Prop :=
  ∃ t ax bs cx F', e = .returned (.tuple #[.agg #[.int .u8 t, .slice ax bs.length cx], .bool (atG l i).isSome]) ∧ RefRep w' rb (dropS l i).1 F' ∧ Held w' (atG l i) t ax bs cx ∧
    (∀ q, (Value.slice ax bs.length cx).ownBlock = some q → q ∈ F ∧ q ∉ F') ∧ Chg F F' w w'

theorem net_took (nb : Nat) (l : List G) (F : List Nat) (i : Int) (w : World) (hn : NetRep w nb l F) (hl : Good l) :
    Calls Try.prog 12 #[.pointer (some ⟨nb, 0, none⟩), .int .i64 i] w (NetTook w nb l F i) := by
  unfold NetTook dropS
  cases h : atG l i with
  | none =>
    refine (net_take_none nb l F i w hn hl.len (atG_none h)).mono ?_
    rintro e w' ⟨rfl, hb⟩
    exact ⟨0, none, [], 0, F, rfl, hn.below hb, ⟨World.ownsRow_nil _ _ _ _, fun g hg => (by cases hg), fun _ => ⟨rfl, rfl, rfl, rfl⟩⟩, fun q hq => (by simp [Value.ownBlock] at hq), by simpa [Value.ownBlock] using Chg.of_below hb⟩
  | some g =>
    refine (net_take nb l F i w g hn hl.len (atG_some h).1 (atG_some h).2).mono ?_
    rintro e w' ⟨gb, gc, F', rfl, hr, ho, hc, hnd⟩
    refine ⟨g.to, some ⟨gb, 0, none⟩, g.b, gc, F', rfl, hr, ⟨ho, fun g' hg => (by cases hg; exact ⟨rfl, rfl⟩), fun hg => (by cases hg)⟩, fun q hq => ?_, by simpa [Value.ownBlock] using hc⟩
    simp only [Value.ownBlock, Option.some.injEq] at hq
    subst hq
    exact (List.nodup_cons.1 hnd).1
theorem ref_took (rb : Nat) (l : List G) (F : List Nat) (i : Int) (w : World) (hn : RefRep w rb l F) (hl : Good l) :
    Calls Try.prog 23 #[.pointer (some ⟨rb, 0, none⟩), .int .i64 i] w (RefTook w rb l F i) := by
  unfold RefTook dropS
  cases h : atG l i with
  | none =>
    refine (ref_take_none rb l F i w hn hl.len (atG_none h)).mono ?_
    rintro e w' ⟨rfl, hb⟩
    exact ⟨0, none, [], 0, F, rfl, hn.below hb, ⟨World.ownsRow_nil _ _ _ _, fun g hg => (by cases hg), fun _ => ⟨rfl, rfl, rfl, rfl⟩⟩, fun q hq => (by simp [Value.ownBlock] at hq), Chg.of_below hb⟩
  | some g =>
    refine (ref_take rb l F i w g hn hl.len (atG_some h).1 (atG_some h).2 fun g hg => (hl.each g hg).1).mono ?_
    rintro e w' ⟨gb, gc, F', rfl, hr, hgF, hgF', ho, hc⟩
    refine ⟨g.to, some ⟨gb, 0, none⟩, g.b, gc, F', rfl, hr, ⟨ho, fun g' hg => (by cases hg; exact ⟨rfl, rfl⟩), fun hg => (by cases hg)⟩, fun q hq => ?_, hc⟩
    simp only [Value.ownBlock, Option.some.injEq] at hq
    subst hq
    exact ⟨hgF, hgF'⟩

/-- both have taken -/
structure Took (w : World) (nb rb : Nat) (F0 : List Nat) (l' lr' : List G) (ax : Option Addr) (n cx : Nat) (wr : World) : Prop where
  both : ∃ F Fr, NetRep wr nb l' F ∧ RefRep wr rb lr' Fr ∧ (∀ k ∈ F, k ∉ Fr) ∧ (∀ q, (Value.slice ax n cx).ownBlock = some q → q ∉ F ∧ q ∉ Fr) ∧ Chg F0 ((Value.slice ax n cx).ownBlock.toList ++ (F ++ Fr)) w wr
  own : ∃ bs : List UInt8, bs.length = n ∧ wr.ownsRow 0 5 1 (.slice ax n cx) n (bcells bs)
theorem Took.two {w wr : World} {nb rb : Nat} {F0 : List Nat} {l' lr' : List G} {ax : Option Addr} {n cx : Nat} (h : Took w nb rb F0 l' lr' ax n cx wr) : Two w nb rb F0 l' lr' wr := by
  obtain ⟨F, Fr, h1, h2, h3, _, h4⟩ := h.both
  exact ⟨F, Fr, h1, h2, h3, h4.sub fun k hk => List.mem_append_right _ hk⟩
theorem Took.low {w wr w' : World} {nb rb : Nat} {F0 : List Nat} {l' lr' : List G} {ax : Option Addr} {n cx : Nat} (h : Took w nb rb F0 l' lr' ax n cx wr) (hb : Below wr.heap.size wr w') : Took w nb rb F0 l' lr' ax n cx w' := by
  obtain ⟨F, Fr, h1, h2, h3, h5, h4⟩ := h.both
  obtain ⟨bs, e, ho⟩ := h.own
  exact ⟨⟨F, Fr, h1.below hb, h2.below hb, h3, h5, h4.trans (Chg.of_below hb)⟩, bs, e, ownsRow_same ho fun q hq => hb.block q (ho.lt q hq).2⟩
/-- its k-th byte -/
theorem Took.byte {w wr : World} {nb rb : Nat} {F0 : List Nat} {l' lr' : List G} {ax : Option Addr} {n cx : Nat} (h : Took w nb rb F0 l' lr' ax n cx wr) {k : Nat} (hk : k < n) :
    ∃ gb y, ax = some ⟨gb, 0, none⟩ ∧ wr.cell? ⟨gb, k, none⟩ = some (.int .u8 (y : UInt8).toNat) ∧ wr.frozen? ⟨gb, k, none⟩ = false ∧ gb < wr.heap.size ∧ ∀ z : UInt8, Took w nb rb F0 l' lr' ax n cx (wr.setCell ⟨gb, k, none⟩ (.int .u8 z.toNat)) := by
  obtain ⟨F, Fr, h1, h2, h3, h5, h4⟩ := h.both
  obtain ⟨bs, rfl, ho⟩ := h.own
  have hbne : ∃ gb, ax = some ⟨gb, 0, none⟩ := by
    rcases ho.2 with ⟨_, hz⟩ | ⟨gb, _, _, hz, _⟩
    · omega
    · cases hz; exact ⟨gb, rfl⟩
  obtain ⟨gb, rfl⟩ := hbne
  have hg := h5 gb rfl
  refine ⟨gb, bs[k], rfl, ?_, ho.frozenAt k, (ho.lt gb rfl).2, fun z => ⟨⟨F, Fr, h1.same fun q hq => heap_set_ne fun e => hg.1 (e ▸ hq), h2.same fun q hq => heap_set_ne fun e => hg.2 (e ▸ hq), h3, h5, h4.trans ?_⟩, bs.set k z, by simp, ?_⟩⟩
  · rw [ho.cellAt k (by omega)]
    simp [bcells, List.getElem?_eq_getElem hk]
  · refine ⟨rfl, rfl, rfl, by simp [World.setCell], fun q hq hn => heap_set_ne fun e => hn (List.mem_append_left _ (by simp [Value.ownBlock, e])), fun q hq => .inl hq⟩
  · have h5 := (ho.stored k (.int .u8 z.toNat)).1
    simpa [bcells_set'] using h5

set_option maxRecDepth 100000 in
set_option maxHeartbeats 3200000 in
theorem does_take (nb rb : Nat) (F Fr : List Nat) (l lr : List G) (kd to : Int) (xa : Option Addr) (m xc : Nat) (i a x : Int) (w : World) (h1 : NetRep w nb l F) (h2 : RefRep w rb lr Fr) (h3 : ∀ k ∈ F, k ∉ Fr) (hl : Good l) (hlr : Good lr) (hk : kd.tmod 8 = 3) :
    Calls Try.prog 16 #[.pointer (some ⟨nb, 0, none⟩), .pointer (some ⟨rb, 0, none⟩), opV kd to (.slice xa m xc) i a x] w (Done w nb rb (F ++ Fr) l lr (dropS l i).1 (dropS lr i).1) := by
  have hlt : ∀ k ∈ F, k < w.heap.size := h1.lt
  have hltr : ∀ k ∈ Fr, k < w.heap.size := h2.lt
  have H1 := hide h1; have H2 := hide h2; have H3 := hide h3; have HL := hide hl; have HLR := hide hlr; have HLT := hide hlt; have HLTR := hide hltr
  have b3 : (kd.tmod 8 == 3) = true := by rw [hk]; rfl
  clear h1 h2 h3 hl hlr hlt hltr hk
  unfold opV
  go_enter Try.func16, Try.ntmps16
  go_wp2_with fail
  obtain ⟨w0, hw0⟩ : ∃ w0, w0 = w.alloc (opObj kd to (.slice xa m xc) i a x) := ⟨_, rfl⟩
  have hb0 : Below w.heap.size w w0 := by rw [hw0]; exact (Below.refl _ _).alloc (Nat.le_refl _) _
  have c0 : w0.cell? ⟨w.heap.size, 3, none⟩ = some (.int .i64 i) := by rw [hw0]; simp [opObj, go_sem]
  have hs0 : w0.heap.size = w.heap.size + 1 := by rw [hw0]; simp
  rw [show w.alloc (.cells #[.int .u8 kd, .int .u8 to, .slice xa m xc, .int .i64 i, .int .i64 a, .int .u8 x] 31) = w0 from hw0.symm]
  clear hw0
  refine (net_took nb l F i w0 (H1.out.below hb0) HL.out).mono ?_
  rintro e w1 ⟨t1, ax, bs, cx, F', rfl, hr1, hh1, hq1, hc1⟩
  have hs1 := hc1.size
  have hbx : w.heap.size < w1.heap.size := by omega
  have d1 : ∀ o, (w1.alloc o).cell? ⟨w.heap.size, 3, none⟩ = some (.int .i64 i) := fun o => by
    rw [World.cell?_alloc_past _ _ _ hbx, (hc1.cellAt 3 (by omega) fun hm => Nat.lt_irrefl _ (HLT.out _ hm)).1]; exact c0
  have hrr : ∀ o, RefRep (w1.alloc o) rb lr Fr := fun o => by
    refine H2.out.same fun k hk => ?_
    have h1 := HLTR.out k hk
    rw [Below.heap_alloc _ _ _ (by omega), hc1.block k (by omega) (fun hm => H3.out k hm hk), hb0.block k h1]
  have HR1 := hide hr1; have HH1 := hide hh1; have HQ1 := hide hq1; have HC1 := hide hc1; have HRR := hide hrr
  clear hr1 hh1 hq1 hc1 hrr c0
  go_wp2_with fail
  refine (ref_took rb lr Fr i _ (HRR.out _) HLR.out).mono ?_
  obtain ⟨o7, ho7⟩ : ∃ o7, o7 = Obj.cells #[.int .u8 t1, .slice ax bs.length cx] 33 := ⟨_, rfl⟩
  rw [← ho7]
  have p0 : (w1.alloc o7).cell? ⟨w1.heap.size, 0, none⟩ = some (.int .u8 t1) := by rw [ho7]; simp [go_sem]
  have p1 : (w1.alloc o7).cell? ⟨w1.heap.size, 1, none⟩ = some (.slice ax bs.length cx) := by rw [ho7]; simp [go_sem]
  clear ho7
  rintro e w3 ⟨t2, ax2, bs2, cx2, Fr', rfl, hr3, hh3, hq3, hc3⟩
  have hs3 := hc3.size
  simp only [World.size_alloc] at hs3
  have hq7 : w1.heap.size ∉ Fr := fun hm => by have := HLTR.out _ hm; omega
  have p0' := (hc3.cellAt 0 (by simp) hq7).1.trans p0
  have p1' := (hc3.cellAt 1 (by simp) hq7).1.trans p1
  obtain ⟨W, hW⟩ : ∃ W, W = w3.alloc (.cells #[.int .u8 t2, .slice ax2 bs2.length cx2] 33) := ⟨_, rfl⟩
  have hbW : Below w3.heap.size w3 W := by rw [hW]; exact (Below.refl _ _).alloc (Nat.le_refl _) _
  have g0 : W.cell? ⟨w1.heap.size, 0, none⟩ = some (.int .u8 t1) := (hbW.cell (p := ⟨w1.heap.size, 0, none⟩) (show w1.heap.size < w3.heap.size by omega)).trans p0'
  have g1 : W.cell? ⟨w1.heap.size, 1, none⟩ = some (.slice ax bs.length cx) := (hbW.cell (p := ⟨w1.heap.size, 1, none⟩) (show w1.heap.size < w3.heap.size by omega)).trans p1'
  have g2 : W.cell? ⟨w3.heap.size, 0, none⟩ = some (.int .u8 t2) := by rw [hW]; simp [go_sem]
  have g3 : W.cell? ⟨w3.heap.size, 1, none⟩ = some (.slice ax2 bs2.length cx2) := by rw [hW]; simp [go_sem]
  have hTook : Took w nb rb (F ++ Fr) (dropS l i).1 (dropS lr i).1 ax bs.length cx W := by
    have hn1 : ∀ q, (Value.slice ax bs.length cx).ownBlock = some q → q < w1.heap.size := fun q hq => (HH1.out.own.lt q hq).2
    have hF' : ∀ k ∈ F', k < w1.heap.size := HR1.out.lt
    have hnF : ∀ k, k < w1.heap.size → (k ∈ F' ∨ (Value.slice ax bs.length cx).ownBlock = some k) → k ∉ Fr := fun k hk hm hr => by
      have h1 := HLTR.out k hr
      rcases HC1.out.fresh k (by rcases hm with hm | hm <;> simp [hm]) with h | h
      · exact H3.out k h hr
      · omega
    have keep : ∀ k, k < w1.heap.size → (k ∈ F' ∨ (Value.slice ax bs.length cx).ownBlock = some k) → W.heap[k]? = w1.heap[k]? := fun k hk hm => by
      rw [hbW.block k (by omega), hc3.block k (by simp; omega) (hnF k hk hm), Below.heap_alloc _ _ _ hk]
    have hr3lt := hr3.lt
    refine ⟨⟨F', Fr', HR1.out.same fun k hk => keep k (hF' k hk) (.inl hk), hr3.below hbW, fun k hk hr => ?_, fun q hq => ⟨HQ1.out q hq, fun hr => ?_⟩, ?_⟩, bs, rfl, ownsRow_same HH1.out.own fun q hq => keep q (hn1 q hq) (.inr hq)⟩
    · rcases hc3.fresh k hr with h | h
      · exact hnF k (hF' k hk) (.inl hk) h
      · have := hF' k hk; simp at h; omega
    · rcases hc3.fresh q hr with h | h
      · exact hnF q (hn1 q hq) (.inr hq) h
      · have := hn1 q hq; simp at h; omega
    · refine ⟨?_, ?_, ?_, ?_, fun k hk hn => ?_, fun k hk => ?_⟩
      · exact hbW.os.trans (hc3.os.trans (HC1.out.os.trans hb0.os))
      · exact hbW.tape.trans (hc3.tape.trans (HC1.out.tape.trans hb0.tape))
      · exact hbW.output.trans (hc3.output.trans (HC1.out.output.trans hb0.output))
      · have := hbW.size; omega
      · rw [hbW.block k (by omega), hc3.block k (by simp; omega) (fun h => hn (List.mem_append_right _ h)), Below.heap_alloc _ _ _ (by omega), HC1.out.block k (by omega) (fun h => hn (List.mem_append_left _ h)), hb0.block k hk]
      · simp only [List.mem_append] at hk ⊢
        have side : ∀ k, (k ∈ (Value.slice ax bs.length cx).ownBlock.toList ++ F') → (k ∈ F ∨ k ∈ Fr) ∨ w.heap.size ≤ k := fun k hk => by
          rcases HC1.out.fresh k hk with h | h
          · exact .inl (.inl h)
          · exact .inr (by omega)
        rcases hk with hk | hk | hk
        · exact side k (List.mem_append_left _ hk)
        · exact side k (List.mem_append_right _ hk)
        · rcases hc3.fresh k hk with h | h
          · exact .inl (.inr h)
          · exact .inr (by simp at h; omega)
  have hX2 : Rd W (.slice ax2 bs2.length cx2) 1 bs2.length (bcells bs2) := ownsRow_rd (ownsRow_same hh3.own fun q hq => hbW.block q (hh3.own.lt q hq).2)
  have hX1 : Rd W (.slice ax bs.length cx) 1 bs.length (bcells bs) := by
    obtain ⟨bs', e, ho⟩ := hTook.own
    refine ownsRow_rd (ownsRow_same HH1.out.own fun q hq => ?_)
    have hn1 := (HH1.out.own.lt q hq).2
    have hnr : q ∉ Fr := fun hr => by
      have h1 := HLTR.out q hr
      rcases HC1.out.fresh q (by simp [hq]) with h | h
      · exact H3.out q h hr
      · omega
    rw [hbW.block q (by omega), hc3.block q (by simp; omega) hnr, Below.heap_alloc _ _ _ hn1]
  have v1 := convert_rd bs _ W hX1
  have v2 := convert_rd bs2 _ W hX2
  have hres : l = lr → (atG l i).isSome = (atG lr i).isSome ∧ t1 = t2 ∧ bs = bs2 := fun e => by
    subst e
    refine ⟨rfl, ?_⟩
    cases h : atG l i with
    | none =>
      obtain ⟨a1, a2, _⟩ := HH1.out.none h
      obtain ⟨b1, b2, _⟩ := hh3.none h
      exact ⟨a1.trans b1.symm, a2.trans b2.symm⟩
    | some g =>
      obtain ⟨a1, a2⟩ := HH1.out.some g h
      obtain ⟨b1, b2⟩ := hh3.some g h
      exact ⟨a1.trans b1.symm, a2.trans b2.symm⟩
  have hbl : bs.length ≤ 4096 := by
    cases h : atG l i with
    | none => rw [(HH1.out.none h).2.1]; simp
    | some g => rw [(HH1.out.some g h).2]; exact (HL.out.each g (List.mem_of_getElem? (atG_some h).2)).2.1
  have hne : ∀ q, (Value.slice ax bs.length cx).ownBlock = some q → q ≠ w1.heap.size := fun q hq => Nat.ne_of_lt (HH1.out.own.lt q hq).2
  have HNE := hide hne
  clear hne
  have HT := hide hTook; have HRES := hide hres; have HWS := hide hbW.size; have HG1 := hide g1
  have hqW : w1.heap.size < W.heap.size := by have := hbW.size; omega
  have hq70 : ∀ k ∈ F ++ Fr, k ≠ w1.heap.size := fun k hk e => by
    have : k < w.heap.size := (List.mem_append.1 hk).elim (HLT.out k) (HLTR.out k)
    omega
  subst hW
  clear g2 g3
  clear hr3 hh3 hq3 hc3 p0 p1 p0' p1' d1 hX1 hX2 hTook hres hbW hq7 HR1 HH1 HQ1 HC1 HRR H1 H2 H3 HLT HLTR HL HLR hb0 hs0
  go_wp2
  all_goals
    rename_i hcase K0 hK0
    have HCASE := hide hcase
    clear hcase v1 v2 g0 g1
    go_loopw [12] (fun i' wc => ∃ (k : Nat), k ≤ bs.length ∧ i' = .int .i64 k ∧ w1.heap.size < wc.heap.size ∧ Hid (Took w nb rb (F ++ Fr) (dropS l i).1 (dropS lr i).1 ax bs.length cx wc) ∧ Hid (wc.cell? ⟨w1.heap.size, 1, none⟩ = some (.slice ax bs.length cx))) (fun i' _ => bs.length - (intOf i').toNat)
    case atStart => exact ⟨0, Nat.zero_le _, rfl, hqW, HT, HG1⟩
    case round =>
      obtain ⟨k, hk, rfl, hqr, hT, hG⟩ := hrel
      by_cases hlt : k < bs.length
      · obtain ⟨gb, y, rfl, y1, y2, hgl, hset⟩ := hT.out.byte hlt
        have hgn := HNE.out gb rfl
        have s0 : ∀ w', Below wr.heap.size wr w' → w'.cell? ⟨w1.heap.size, 1, none⟩ = some (.slice (some ⟨gb, 0, none⟩) bs.length cx) := fun w' h => (h.cell (p := ⟨w1.heap.size, 1, none⟩) hqr).trans hG.out
        have s1 : ∀ w', Below wr.heap.size wr w' → w'.cell? ⟨gb, k, none⟩ = some (.int .u8 y.toNat) := fun w' h => (h.cell (p := ⟨gb, k, none⟩) hgl).trans y1
        have s2 : ∀ w', Below wr.heap.size wr w' → w'.frozen? ⟨gb, k, none⟩ = false := fun w' h => (h.frozen (p := ⟨gb, k, none⟩) hgl).trans y2
        have s3 := hG.out
        have j1 : (0 : Int) ≤ (k : Int) := by omega
        have j2 : (k : Int) < (bs.length : Int) := by omega
        clear hset
        go_wp2_with fail
        refine wp_region_new 10 145 (by kernel_rfl) (by kernel_rfl) rfl (by kernel_rfl) (fun w' => Below wr.heap.size wr w') (Below.refl _ _) (fun w w' h1 h2 => h2.trans (h1.mono h2.size)) (fun h => h.drew) ?_
        simp only [List.take_succ_cons, List.take_zero, List.drop_succ_cons, List.drop_zero]
        iterate 10 (refine Hav.read (e := ?_) (fun v => by rfl) (fun v w' hS hF => ?_) ?_; rotate_left; (first | (go_simp; done) | (go_simp; with_reducible rfl)); go_simp)
        refine Hav.fin (fun v w' hS hF => ?_)
        have z1 := s1 w' hS
        have z2 := s2 w' hS
        obtain ⟨gb', y', e', _, _, _, hset⟩ := (hT.out.low hS).byte hlt
        cases e'
        have hT3 := hset (y ^^^ 255)
        have hG3 : (w'.setCell ⟨gb, k, none⟩ (.int .u8 ((y ^^^ 255).toNat : Nat))).cell? ⟨w1.heap.size, 1, none⟩ = some (.slice (some ⟨gb, 0, none⟩) bs.length cx) := by
          rw [World.cell?_setCell_other _ _ _ _ (by simp [hgn])]; exact s0 w' hS
        have hqr3 : w1.heap.size < (w'.setCell ⟨gb, k, none⟩ (.int .u8 ((y ^^^ 255).toNat : Nat))).heap.size := by
          rw [size_setCell]; exact Nat.lt_of_lt_of_le hqr hS.size
        have hyb : y.toNat < 256 := y.toNat_lt
        have hval : (((y ^^^ 255).toNat : Nat) : Int) = bits .xor .u8 (y.toNat : Int) 255 := by
          rw [UInt8.toNat_xor]; exact (u8_xor_nat y.toNat 255 hyb (by omega)).symm
        rw [hval] at hT3 hG3 hqr3
        have HT3 := hide hT3
        have HG3 := hide hG3
        have HQ3 := hide hqr3
        clear hF hS s0 s1 s2 s3 hT hG y1 y2 hval hT3 hG3 hqr3 hset
        go_wp2
        go_roundw
        case rel => exact ⟨k + 1, by omega, by go_num, HQ3.out, HT3, HG3⟩
        case measure => simp [intOf]; omega
      · have s3 := hG.out
        go_wp2
        go_ret
        refine ⟨_, rfl, fun e => ?_, hT.out.two⟩
        obtain ⟨e1, e2, e3⟩ := HRES.out e
        first
          | exact absurd e2 HCASE.out
          | exact absurd e1 HCASE.out
          | simp [e3]
end Go.Proofs.Ytipobpcafkhknaa
