/-
  The reference's timers: what they read as; New, At, Stop.
-/
import Derived.Test.YtjehoingphndnaaTiC
namespace Go.Proofs.Ytjehoingphndnaa
open Go.RowKit Go.Maps
set_option linter.unusedVariables false
set_option linter.unusedSimpArgs false

abbrev Tl := List (Int × Run)
def t3 (p : Int × Run) : List Value := [.int .u32 p.1, .int .i64 p.2.1, .int .u64 p.2.2]
def tcells (l : Tl) : List Value := l.flatMap t3
theorem tcells_len (l : Tl) : (tcells l).length = l.length * 3 := by
  induction l with
  | nil => rfl
  | cons p l ih => rw [tcells, List.flatMap_cons, List.length_append, ← tcells, ih, List.length_cons]; simp [t3]; omega
theorem tcells_get : ∀ (l : Tl) {i : Nat} {p : Int × Run}, l[i]? = some p → ∀ j, j < 3 → (tcells l)[i * 3 + j]? = (t3 p)[j]?
  | q :: l, 0, p, h, j, hj => by
    simp only [List.getElem?_cons_zero, Option.some.injEq] at h
    subst h
    rw [tcells, List.flatMap_cons, Nat.zero_mul, Nat.zero_add, List.getElem?_append_left (by simp [t3]; omega)]
  | q :: l, i + 1, p, h, j, hj => by
    rw [tcells, List.flatMap_cons, List.getElem?_append_right (by simp [t3]; omega), show (i + 1) * 3 + j - (t3 q).length = i * 3 + j by simp [t3]; omega]
    exact tcells_get l (by simpa using h) j hj
theorem tcells_one (l : Tl) : ∀ u ∈ tcells l, u.oneCell' = true := fun u hu => by
  obtain ⟨p, _, hp⟩ := List.mem_flatMap.1 hu
  simp only [t3, List.mem_cons, List.not_mem_nil, or_false] at hp
  rcases hp with rfl | rfl | rfl <;> rfl
theorem tcells_app (l m : Tl) : tcells (l ++ m) = tcells l ++ tcells m := List.flatMap_append

def RAt (w : World) (rb tk : Nat) (v : Value) : Prop := w.heap[rb]? = some (.cells #[.int .u64 tk, v] 56 (0, 0))
theorem RAt.facts {w : World} {rb tk : Nat} {v : Value} (h : RAt w rb tk v) : w.cell? ⟨rb, 0, none⟩ = some (.int .u64 tk) ∧ w.cell? ⟨rb, 1, none⟩ = some v ∧ w.frozen? ⟨rb, 1, none⟩ = false ∧ rb < w.heap.size := by
  unfold RAt at h
  exact ⟨by simp [World.cell?, h], by simp [World.cell?, h], by simp [World.frozen?, h], (Array.getElem?_eq_some_iff.1 h).1⟩
/-- a row of timers of the call's own -/
abbrev TRow (w : World) (B : Nat) (a : Option Addr) (c : Nat) (l : Tl) : Prop := w.ownsRow B 58 3 (.slice a l.length c) l.length (tcells l)
/-- the reference's timers, all of their memory from B on -/
structure RRep (w : World) (B rb tk : Nat) (l : Tl) (F : List Nat) : Prop where
  rep : ∃ a c, RAt w rb tk (.slice a l.length c) ∧ TRow w B a c l ∧ (Value.slice a l.length c).ownBlock ≠ some rb ∧ B ≤ rb ∧ F = rb :: (Value.slice a l.length c).ownBlock.toList
theorem RRep.lt {w : World} {B rb tk : Nat} {l : Tl} {F : List Nat} (h : RRep w B rb tk l F) : ∀ k ∈ F, B ≤ k ∧ k < w.heap.size := by
  obtain ⟨a, c, h1, h2, h3, h4, rfl⟩ := h
  intro k hk
  rcases List.mem_cons.1 hk with rfl | hk
  · exact ⟨h4, h1.facts.2.2.2⟩
  · exact h2.lt k (by simpa using hk)
theorem RRep.same {w w' : World} {B rb tk : Nat} {l : Tl} {F : List Nat} (h : RRep w B rb tk l F) (hk : ∀ k ∈ F, w'.heap[k]? = w.heap[k]?) : RRep w' B rb tk l F := by
  obtain ⟨a, c, h1, h2, h3, h4, rfl⟩ := h
  exact ⟨a, c, (hk rb (by simp)).trans h1, ownsRow_same h2 fun b hb => hk b (by simp [hb]), h3, h4, rfl⟩
theorem RRep.low {w w' : World} {B rb tk : Nat} {l : Tl} {F : List Nat} (h : RRep w B rb tk l F) (hb : Below w.heap.size w w') : RRep w' B rb tk l F :=
  h.same fun k hk => hb.block k (h.lt k hk).2
theorem RRep.chg {w w' : World} {B rb tk : Nat} {l : Tl} {F G G' : List Nat} (h : RRep w B rb tk l F) (hc : Chg G G' w w') (hd : ∀ k ∈ F, k ∉ G) : RRep w' B rb tk l F :=
  h.same fun k hk => hc.block k (h.lt k hk).2 (hd k hk)
/-- the i-th timer, as it lies in memory -/
theorem TRow.get {w : World} {B : Nat} {a : Option Addr} {c : Nat} {l : Tl} (h : TRow w B a c l) {i : Nat} {p : Int × Run} (hi : l[i]? = some p) :
    ∃ g, a = some ⟨g, 0, none⟩ ∧ w.cell? ⟨g, i * 3, none⟩ = some (.int .u32 p.1) ∧ w.cell? ⟨g, i * 3 + 1, none⟩ = some (.int .i64 p.2.1) ∧ w.cell? ⟨g, i * 3 + 2, none⟩ = some (.int .u64 p.2.2) ∧ (∀ o, w.frozen? ⟨g, o, none⟩ = false) ∧ B ≤ g ∧ g < w.heap.size := by
  have hlt := (List.getElem?_eq_some_iff.1 hi).1
  obtain ⟨g, cap, he, hg⟩ := ownsRow_some h (by
    intro e0
    rcases h.2 with ⟨_, hz⟩ | ⟨_, _, _, hz, _⟩
    · omega
    · rw [e0] at hz; cases hz)
  simp only [Value.slice.injEq] at he
  obtain ⟨rfl, _, rfl⟩ := he
  have hc : ∀ j, j < 3 → w.cell? ⟨g, i * 3 + j, none⟩ = (t3 p)[j]? := fun j hj => by
    rw [h.cellAt _ (by omega)]
    exact tcells_get l hi j hj
  exact ⟨g, rfl, hc 0 (by omega), hc 1 (by omega), hc 2 (by omega), h.frozenAt, hg, (h.lt g rfl).2⟩

theorem rt_New (n : Nat) (h0 : 1 ≤ n) (h1 : n ≤ 1000) (w : World) : Calls Try.prog 13 #[.int .i64 n] w fun e w' => ∃ rb F, e = .returned (.pointer (some ⟨rb, 0, none⟩)) ∧ RRep w' w.heap.size rb n [] F ∧ Below w.heap.size w w' := by
  have i0 : ¬ ((n : Int) < 1) := by omega
  have i1 : ¬ ((1000 : Int) < n) := by omega
  have hwn : IntKind.u64.wrap (n : Int) = n := wrapU (by omega) (by omega)
  go_enter Try.func13, Try.ntmps13
  go_wp2
  go_ret
  refine ⟨w.heap.size, rfl, ⟨_, ⟨none, 0, ?_, World.ownsRow_nil _ _ _ _, by simp [Value.ownBlock], Nat.le_refl _, rfl⟩⟩, below_alloc w _⟩
  exact heap_alloc_at w _

theorem mget_drop {k : Int} {l : Tl} {i : Nat} {p : Int × Run} (hi : l[i]? = some p) : mget k (l.drop i) = if p.1 = k then some p.2 else mget k (l.drop (i + 1)) := by
  rw [List.drop_eq_getElem_cons (List.getElem?_eq_some_iff.1 hi).1, (List.getElem?_eq_some_iff.1 hi).2]
  unfold mget
  by_cases h : p.1 = k <;> simp [h]

set_option maxRecDepth 100000 in
set_option maxHeartbeats 1600000 in
theorem rt_At (B rb tk : Nat) (l : Tl) (F : List Nat) (k : Nat) (hl : l.length ≤ 1000) (w : World) (h : RRep w B rb tk l F) :
    Calls Try.prog 14 #[.pointer (some ⟨rb, 0, none⟩), .int .u32 k] w fun e w' => e = .returned (.tuple #[.int .u64 (((mget (k : Int) l).getD (0, 0)).2 : Nat), .bool (mget (k : Int) l).isSome]) ∧ Below w.heap.size w w' := by
  obtain ⟨a, c, h1, h2, h3, h4, rfl⟩ := h
  have f1 := h1.facts.2.1
  have H2 := hide h2
  clear h1 h2 h3 h4
  go_enter Try.func14, Try.ntmps14
  go_wp2
  go_loopw [6] (fun iv wr => ∃ i : Nat, iv = .int .i64 i ∧ i ≤ l.length ∧ Hid (mget (k : Int) (l.drop i) = mget (k : Int) l) ∧ w = wr) (fun iv _ => match iv with | .int _ j => l.length - j.toNat | _ => 0)
  case atStart => exact ⟨0, rfl, Nat.zero_le _, hide rfl, rfl⟩
  case round =>
    obtain ⟨i, rfl, hi, hg, rfl⟩ := hrel
    by_cases hil : i < l.length
    · obtain ⟨p, hp⟩ : ∃ p, l[i]? = some p := ⟨_, List.getElem?_eq_getElem hil⟩
      obtain ⟨g, rfl, c0, c1, c2, cf, _, _⟩ := H2.out.get hp
      obtain ⟨pk, p1, p2⟩ := p
      have hd := mget_drop (k := (k : Int)) hp
      rw [hg.out] at hd
      simp only at c0 c1 c2 hd
      have HD := hide hd
      clear hd hp cf
      by_cases he : pk = (k : Int)
      · subst he
        have hd := HD.out
        rw [if_pos rfl] at hd
        have HD2 := hide hd
        clear hd
        go_wp2
        go_ret2
        rw [HD2.out]
        exact ⟨rfl, Below.refl _ _⟩
      · have heb : (pk == (k : Int)) = false := by simpa using he
        have hd := HD.out
        rw [if_neg he] at hd
        have HD2 := hide hd
        clear hd
        go_wp2
        refine ⟨⟨i + 1, by simp, hil, hide HD2.out.symm, by first | trivial | rfl⟩, ?_⟩
        show l.length - ((i : Int) + 1).toNat < l.length - ((i : Nat) : Int).toNat
        omega
    · obtain rfl : i = l.length := by omega
      have hd := hg.out
      rw [List.drop_length] at hd
      have HD := hide hd
      clear hd
      go_wp2
      go_ret2
      rw [← HD.out]
      exact ⟨rfl, Below.refl _ _⟩

theorem Rt_info : (Try.prog.info? 58).map (fun i => (i.zero, i.size, i.bytes)) = some (some (.agg #[.int .u32 0, .int .i64 0, .int .u64 0]), 3, 24) := by kernel_rfl
theorem slice_of_row3 {w : World} {B t n : Nat} {v : Value} {xs : List Value} (h : w.ownsRow B t 3 v n xs) : ∃ a c, v = .slice a n c := by
  rcases h.2 with ⟨h1, h2⟩ | ⟨g, cap, cur, h1, _⟩
  · exact ⟨none, 0, by rw [h1, h2]⟩
  · exact ⟨_, _, h1⟩
theorem rd_new3 (w : World) (cs : Array Value) (e : TypeId) (n m size : Nat) (hn : n = w.heap.size) (hs : 0 < m) (h : cs.size = m * size) : Rd (w.alloc (.cells cs e)) (.slice (some ⟨n, 0, none⟩) m m) size m cs.toList := by
  subst hn
  exact rd_new w cs e m size hs h
/-- a row that grows beside what was there: at w0 nothing of it was -/
structure TNew (w0 : World) (w : World) (v : Value) (n : Nat) (l : Tl) : Prop where
  row : w.ownsRow w0.heap.size 58 3 v n (tcells l)
  len : n = l.length
  low : Below w0.heap.size w0 w
theorem TNew.nil (w0 w : World) (h : Below w0.heap.size w0 w) : TNew w0 w (.slice none 0 0) 0 [] := ⟨World.ownsRow_nil _ _ _ _, rfl, h⟩
/-- append of what is read, the world grown by it -/
theorem TNew.app {w0 w w1 w2 : World} {v v' : Value} {n m : Nat} {l l' : Tl} (h : TNew w0 w v n l) (hb : Below w.heap.size w w1) (ho : w2.ownsRow w0.heap.size 58 3 v' (n + m) (tcells l ++ tcells l')) (hm : m = l'.length) (hg : w1.grownBy w2 v.ownBlock) : TNew w0 w2 v' (n + m) (l ++ l') := by
  refine ⟨by rw [tcells_app]; exact ho, by rw [h.len, hm, List.length_append], ?_⟩
  have h1 := h.low.trans (hb.mono h.low.size)
  exact h1.grown hg h1.size fun j hj => (h.row.lt j hj).1

def delR (k : Int) (l : Tl) : Tl := mdel k l
theorem mdel_app (k : Int) (l m : Tl) : mdel k (l ++ m) = mdel k l ++ mdel k m := by unfold mdel; exact List.filter_append ..
theorem take_step {l : Tl} {i : Nat} {p : Int × Run} (hi : l[i]? = some p) : l.take (i + 1) = l.take i ++ [p] := by rw [List.take_add_one, hi]; rfl

theorem RRep.put {w wr : World} {B rb tk : Nat} {v0 : Value} {oa : Option Addr} {on oc : Nat} {l' : Tl} (h1 : RAt w rb tk v0) (hB : B ≤ rb) (ht : TNew w wr (.slice oa on oc) on l') (F0 : List Nat) :
    RRep (wr.setCell ⟨rb, 1, none⟩ (.slice oa on oc)) B rb tk l' (rb :: (Value.slice oa l'.length oc).ownBlock.toList) ∧ Chg (rb :: F0) (rb :: (Value.slice oa l'.length oc).ownBlock.toList) w (wr.setCell ⟨rb, 1, none⟩ (.slice oa on oc)) := by
  obtain ⟨hrow, hlen, hlow⟩ := ht
  subst hlen
  have hrb := h1.facts.2.2.2
  have e1 : wr.heap[rb]? = some (.cells #[.int .u64 tk, v0] 56 (0, 0)) := (hlow.block rb hrb).trans h1
  have hb := hrow.lt
  have hne : ∀ b, b ≠ rb → (wr.setCell ⟨rb, 1, none⟩ (.slice oa l'.length oc)).heap[b]? = wr.heap[b]? := fun b hb => by simp [World.setCell, Array.getElem?_modify, Ne.symm hb]
  refine ⟨⟨oa, oc, ?_, ?_, ?_, hB, rfl⟩, ⟨hlow.os, hlow.tape, hlow.output, by simpa using hlow.size, fun j hj hn => ?_, fun j hj => ?_⟩⟩
  · show (wr.setCell ⟨rb, 1, none⟩ (.slice oa l'.length oc)).heap[rb]? = _
    simp [World.setCell, Array.getElem?_modify, e1]
  · refine ownsRow_base (ownsRow_same hrow fun b hb' => hne b ?_) (by omega)
    have := (hb b hb').1
    omega
  · intro e
    have := (hb rb e).1
    omega
  · simp only [List.mem_cons, not_or] at hn
    rw [hne j hn.1]
    exact hlow.block j hj
  · rcases List.mem_cons.1 hj with rfl | hj
    · exact .inl (by simp)
    · exact .inr (hb j (by simpa using hj)).1

set_option maxRecDepth 100000 in
set_option maxHeartbeats 3200000 in
theorem rt_Stop (B rb tk : Nat) (l : Tl) (F : List Nat) (k : Nat) (hl : l.length ≤ 1000) (w : World) (h : RRep w B rb tk l F) :
    Calls Try.prog 19 #[.pointer (some ⟨rb, 0, none⟩), .int .u32 k] w fun e w' => e = .returned (.bool (decide ((mdel (k : Int) l).length < l.length))) ∧ ∃ F', RRep w' B rb tk (mdel (k : Int) l) F' ∧ Chg F F' w w' := by
  have HR := hide h
  obtain ⟨a, c, h1, h2, h3, h4, rfl⟩ := h
  have H1 := hide h1
  have H2 := hide h2
  have H3 := hide h3
  obtain ⟨iU, hiU, hyU0, hyU1, hyU2⟩ := info_parts Rt_info
  clear h1 h2 h3
  go_enter Try.func19, Try.ntmps19
  go_wp2
  go_loopw [5, 6] (fun ov iv wr => ∃ (i : Nat) (oa : Option Addr) (on oc : Nat), ov = .slice oa on oc ∧ iv = .int .i64 i ∧ i ≤ l.length ∧ on ≤ i ∧ Hid (TNew w wr (.slice oa on oc) on (mdel (k : Int) (l.take i)))) (fun _ iv _ => match iv with | .int _ j => l.length - j.toNat | _ => 0)
  case atStart => exact ⟨0, none, 0, 0, rfl, rfl, Nat.zero_le _, Nat.le_refl _, hide (by have := TNew.nil w w (Below.refl _ _); simpa [mdel] using this)⟩
  case round =>
    obtain ⟨i, oa, on, oc, rfl, rfl, hi, hon, hT⟩ := hrel
    have hlow := hide hT.out.low
    have f1 : wr.cell? ⟨rb, 1, none⟩ = some (.slice a l.length c) := (hlow.out.cell (p := ⟨rb, 1, none⟩) H1.out.facts.2.2.2).trans H1.out.facts.2.1
    by_cases hil : i < l.length
    · obtain ⟨p, hp⟩ : ∃ p, l[i]? = some p := ⟨_, List.getElem?_eq_getElem hil⟩
      have hrw : TRow wr B a c l := ownsRow_below H2.out hlow.out (Nat.le_refl _)
      obtain ⟨g, rfl, c0, c1, c2, cf, _, hgl⟩ := hrw.get hp
      obtain ⟨pk, p1, p2⟩ := p
      have ht := take_step hp
      have HTK := hide ht
      simp only at c0 c1 c2
      clear hrw ht hp cf
      by_cases he : pk = (k : Int)
      · have heb : (pk == (k : Int)) = true := by simpa using he
        have hT2 : Hid (TNew w wr (.slice oa on oc) on (mdel (k : Int) (l.take (i + 1)))) := hide (by
          rw [HTK.out, mdel_app]
          have e : mdel (k : Int) [((pk, p1, p2) : Int × Run)] = [] := by simp [mdel, he]
          rw [e, List.append_nil]
          exact hT.out)
        go_wp2
        refine ⟨⟨i + 1, oa, on, oc, rfl, by simp, hil, by omega, hT2⟩, ?_⟩
        show l.length - ((i : Int) + 1).toNat < l.length - ((i : Nat) : Int).toNat
        omega
      · have heb : (pk == (k : Int)) = false := by simpa using he
        have hrow4 : Hid (∀ o, (wr.alloc o).ownsRow w.heap.size 58 3 (.slice oa on oc) on (tcells (mdel (k : Int) (l.take i)))) := hide fun o => hT.out.row.alloc o
        have hsz := hlow.out.size
        go_wp2_with (at_builtin; refine wpList_append_rd rfl (.tmp 27) (.tmp 35) 54 rfl w.heap.size 58 iU (.agg #[.int .u32 0, .int .i64 0, .int .u64 0]) 3 24 Try.underlying54 hiU hyU0 hyU1 hyU2 rfl (by decide) (.slice oa on oc) on _ rfl (hrow4.out _) _ 1 [.int .u32 pk, .int .i64 p1, .int .u64 p2] rfl (rd_new3 _ _ _ _ 1 3 (by simp) (by simp) (by simp)) (by simp [Value.oneCell']) (by unfold maxLen; omega) (by omega) (by simp; omega) ?_; intro v1 w3 hown hgr hnil hv; obtain ⟨oa1, oc1, rfl⟩ := slice_of_row3 hown; have HOWN := hide hown; have HGR := hide hgr; clear hown hgr hnil hv)
        have hT2 : TNew w w3 (.slice oa1 (on + 1) oc1) (on + 1) (mdel (k : Int) (l.take i) ++ [((pk, p1, p2) : Int × Run)]) := hT.out.app (below_alloc wr _) HOWN.out rfl HGR.out
        refine ⟨⟨i + 1, oa1, on + 1, oc1, by simp, by simp, hil, by omega, hide ?_⟩, ?_⟩
        · rw [HTK.out, mdel_app]
          have e : mdel (k : Int) [((pk, p1, p2) : Int × Run)] = [((pk, p1, p2) : Int × Run)] := by simp [mdel, he]
          rw [e]
          exact hT2
        · show l.length - ((i : Int) + 1).toNat < l.length - ((i : Nat) : Int).toNat
          omega
    · obtain rfl : i = l.length := by omega
      have hT2 := hT.out
      rw [List.take_length] at hT2
      have HT2 := hide hT2
      have HON := hide hT2.len
      have f2 : wr.frozen? ⟨rb, 1, none⟩ = false := (hlow.out.frozen (p := ⟨rb, 1, none⟩) H1.out.facts.2.2.2).trans H1.out.facts.2.2.1
      clear hT2 hT
      go_wp2
      go_ret
      rw [← HON.out]
      exact ⟨rfl, _, RRep.put H1.out h4 HT2.out _⟩
end Go.Proofs.Ytjehoingphndnaa
