/-
  The walk of the law NetTakes.
-/
import Derived.Test.YtipobpcafkhknaaNetO
import Derived.Test.YtipobpcafkhknaaItems2
namespace Go.Proofs.Ytipobpcafkhknaa
open Go.RowKit
set_option linter.unusedSimpArgs false
set_option linter.unusedVariables false

set_option maxRecDepth 100000 in
set_option maxHeartbeats 1600000 in
theorem law_takes_known (v : Value) (L : List Item) (i : Int) (w : World) (hL : RdItems w 6 v L) (hop : ∀ t ∈ L, IsOp t) (hl : L.length ≤ 9223372036854775807) (hlb : ∀ t ∈ L, t.b.length ≤ 9223372036854775807) (hk : heavyB L = true) :
    Calls Try.prog 4 #[v, .int .i64 i] w fun e w' => e = .returned (.bool true) ∧ Below w.heap.size w w' := by
  have HL := hide hL; have HO := hide hop; have HB := hide hlb; have HH := hide hk
  clear hL hop hlb hk
  go_enter Try.func4, Try.ntmps4
  go_wp2_with fail
  refine (law_heavy v L _ HL.out HO.out hl HB.out).mono ?_
  rintro e w' ⟨rfl, rfl⟩
  rw [HH.out]
  go_wp2_with (go_at_call 8; refine (law_known _).mono ?_; rintro e w' ⟨rfl, hb⟩; have HBw := hide hb; clear hb)
  go_ret
  exact ⟨rfl, HBw.out⟩

/-- what stays of an element while its bytes are changed -/
def Item.shape (t : Item) : List Value × Value × List Value × Nat := (t.pre, t.x, t.post, t.b.length)
theorem shape_set {L : List Item} {i k : Nat} {t : Item} {y : UInt8} (hi : L[i]? = some t) : (L.set i { t with b := t.b.set k y }).map Item.shape = L.map Item.shape := by
  induction L generalizing i with
  | nil => simp at hi
  | cons p L ih =>
    cases i with
    | zero => simp at hi; subst hi; simp [Item.shape]
    | succ i => simp only [List.set_cons_succ, List.map_cons]; rw [ih (by simpa using hi)]

/-- the told list, while it is being changed -/
def TurnRel (W0 : World) (v : Value) (sh : List (List Value × Value × List Value × Nat)) (FT : List Nat) (wr : World) : Prop := ∃ L, Items wr 33 2 v L ∧ L.map Item.shape = sh ∧ itFp v L = FT ∧ Chg FT FT W0 wr
/-- a datagram's outer form -/
def GramShape (s : List Value × Value × List Value × Nat) : Prop := (∃ to, s.1 = [.int .u8 to]) ∧ s.2.2.1 = [] ∧ s.2.2.2 ≤ 4096

theorem TurnRel.low {W0 w w' : World} {v : Value} {sh : List (List Value × Value × List Value × Nat)} {FT : List Nat} (h : TurnRel W0 v sh FT w) (hb : Below w.heap.size w w') : TurnRel W0 v sh FT w' := by
  obtain ⟨L, h1, h2, rfl, h4⟩ := h
  exact ⟨L, h1.low hb, h2, rfl, h4.trans (Chg.of_below hb)⟩
theorem TurnRel.head {W0 w : World} {v : Value} {sh : List (List Value × Value × List Value × Nat)} {FT : List Nat} (h : TurnRel W0 v sh FT w) : ∃ a c, v = .slice a sh.length c := by
  obtain ⟨L, h1, rfl, _⟩ := h
  obtain ⟨a, c, rfl⟩ := h1.head
  exact ⟨a, c, by simp⟩
/-- the k-th one of it -/
theorem TurnRel.get {W0 w : World} {v : Value} {sh : List (List Value × Value × List Value × Nat)} {k : Nat} {s : List Value × Value × List Value × Nat} {FT : List Nat} (h : TurnRel W0 v sh FT w) (hk : sh[k]? = some s) (hs : GramShape s) :
    ∃ g cap ax cx, v = .slice (some ⟨g, 0, none⟩) sh.length cap ∧ s.2.1 = .slice ax s.2.2.2 cx ∧ w.cell? ⟨g, k * 2 + 1, none⟩ = some (.slice ax s.2.2.2 cx) ∧ g < w.heap.size := by
  obtain ⟨L, h1, rfl, h3, h4⟩ := h
  rw [List.getElem?_map, Option.map_eq_some_iff] at hk
  obtain ⟨t, hg, rfl⟩ := hk
  have hm := List.mem_of_getElem? hg
  obtain ⟨g, cap, rfl, hc, _, hgl⟩ := h1.get hg
  obtain ⟨⟨to, hp⟩, hpo, hb⟩ := hs
  obtain ⟨h5, h6, h7⟩ := h1.each _ hm
  obtain ⟨ax, cx, hx⟩ := (ownsRow_rd h7).head
  refine ⟨g, cap, ax, cx, by simp, hx, ?_, hgl⟩
  have := hc 1 (by omega)
  simp only [Item.shape] at hp
  simpa [Item.cells, hp, hx, Item.shape] using this
/-- its j-th byte -/
theorem TurnRel.byte {W0 w : World} {v : Value} {sh : List (List Value × Value × List Value × Nat)} {k j : Nat} {s : List Value × Value × List Value × Nat} {FT : List Nat} (h : TurnRel W0 v sh FT w) (hk : sh[k]? = some s) {ax : Option Addr} {cx g n cap : Nat} (hx : s.2.1 = .slice ax s.2.2.2 cx) (hv : v = .slice (some ⟨g, 0, none⟩) n cap) (hj : j < s.2.2.2) :
    ∃ gb y, ax = some ⟨gb, 0, none⟩ ∧ gb ≠ g ∧ w.cell? ⟨gb, j, none⟩ = some (.int .u8 (y : UInt8).toNat) ∧ w.frozen? ⟨gb, j, none⟩ = false ∧ gb < w.heap.size := by
  obtain ⟨L, h1, rfl, h3, h4⟩ := h
  rw [List.getElem?_map, Option.map_eq_some_iff] at hk
  obtain ⟨t, hg, rfl⟩ := hk
  have hm := List.mem_of_getElem? hg
  obtain ⟨h5, h6, h7⟩ := h1.each _ hm
  simp only [Item.shape] at hx hj
  have hxx : ∃ gb, ax = some ⟨gb, 0, none⟩ := by
    rcases h7.2 with ⟨_, hz⟩ | ⟨gb, _, _, hz, _⟩
    · omega
    · rw [hx] at hz; cases hz; exact ⟨gb, rfl⟩
  obtain ⟨gb, rfl⟩ := hxx
  have hnd := List.nodup_append.1 h1.nodup
  rw [hx] at h7
  refine ⟨gb, t.b.getD j 0, rfl, fun e => ?_, ?_, h7.frozenAt j, (h7.lt gb rfl).2⟩
  · exact hnd.2.2 g (by rw [hv]; simp [Value.ownBlock]) gb (List.mem_flatMap.2 ⟨_, hm, by simp [hx, Value.ownBlock]⟩) e.symm
  · rw [h7.cellAt j (by omega)]
    simp [bcells, List.getD, List.getElem?_eq_getElem hj]
/-- a byte written -/
theorem TurnRel.write {W0 w : World} {v : Value} {sh : List (List Value × Value × List Value × Nat)} {k j : Nat} {s : List Value × Value × List Value × Nat} {FT : List Nat} (h : TurnRel W0 v sh FT w) (hk : sh[k]? = some s) {cx gb : Nat} (hx : s.2.1 = .slice (some ⟨gb, 0, none⟩) s.2.2.2 cx) (z : UInt8) :
    TurnRel W0 v sh FT (w.setCell ⟨gb, j, none⟩ (.int .u8 z.toNat)) := by
  obtain ⟨L, h1, rfl, h3, h4⟩ := h
  rw [List.getElem?_map, Option.map_eq_some_iff] at hk
  obtain ⟨t, hg, rfl⟩ := hk
  obtain ⟨q1, q2⟩ := h1.setByte hg hx j z
  refine ⟨_, q1, shape_set hg, by rw [itFp_set _ L k t _ hg]; exact h3, ?_⟩
  rw [h3] at q2
  exact h4.trans q2


/-- Take, whatever the number -/
def TakenAny (w : World) (nb : Nat) (l : List G) (F : List Nat) (iN : Nat) (e : Ending) (w' : World) : Prop :=
  ∃ t ax bs cx F', e = .returned (.tuple #[.agg #[.int .u8 t, .slice ax bs.length cx], .bool (decide (iN < l.length))]) ∧ NetRep w' nb (l.eraseIdx iN) F' ∧ Rd w' (.slice ax bs.length cx) 1 bs.length (bcells bs) ∧ Chg F F' w w' ∧
    (∀ g, l[iN]? = some g → t = g.to ∧ bs = g.b)
theorem net_take_any (nb : Nat) (l : List G) (F : List Nat) (i : Int) (iN : Nat) (w : World) (hn : NetRep w nb l F) (hl : l.length ≤ 4096) (hiN : ∀ k : Nat, k < l.length → ((k : Int) = i ↔ k = iN)) :
    Calls Try.prog 12 #[.pointer (some ⟨nb, 0, none⟩), .int .i64 i] w (TakenAny w nb l F iN) := by
  by_cases hin : 0 ≤ i ∧ i < l.length
  · have hi : i.toNat = iN := (hiN i.toNat (by omega)).1 (by omega)
    have hlt : iN < l.length := by omega
    refine (net_take nb l F i w l[iN] hn hl hin.1 (by rw [hi]; exact List.getElem?_eq_getElem hlt)).mono ?_
    rintro e w' ⟨gb, gc, F', rfl, hr, ho, hc, _⟩
    rw [hi] at hr
    refine ⟨l[iN].to, some ⟨gb, 0, none⟩, l[iN].b, gc, F', by simp [hlt], hr, ownsRow_rd ho, hc.sub fun k hk => List.mem_cons_of_mem _ hk, fun g hg => ?_⟩
    rw [List.getElem?_eq_getElem hlt] at hg
    obtain rfl := Option.some.inj hg
    exact ⟨rfl, rfl⟩
  · have hge : l.length ≤ iN := Nat.le_of_not_lt fun hlt => by
      have := (hiN iN hlt).2 rfl
      omega
    refine (net_take_none nb l F i w hn hl (by omega)).mono ?_
    rintro e w' ⟨rfl, hb⟩
    refine ⟨0, none, [], 0, F, by simp [Nat.not_lt.2 hge], ?_, ⟨by simp [bcells], .inl ⟨rfl, rfl⟩⟩, Chg.of_below hb, fun g hg => ?_⟩
    · rw [List.eraseIdx_of_length_le hge]; exact hn.below hb
    · rw [List.getElem?_eq_none hge] at hg; cases hg

/-- the list that is wanted, while it is being made -/
def wantL (Lw : List Item) (iN k : Nat) : List Item := (Lw.take k).eraseIdx iN
theorem wantL_skip {Lw : List Item} {k : Nat} (hk : k < Lw.length) : wantL Lw k (k + 1) = wantL Lw k k := by
  unfold wantL
  rw [List.take_succ_eq_append_getElem hk, List.eraseIdx_append_of_length_le (by simp; omega), List.eraseIdx_of_length_le (l := Lw.take k) (by simp; omega)]
  have : k - (List.take k Lw).length = 0 := by simp; omega
  rw [this]
  simp
theorem wantL_next {Lw : List Item} {iN k : Nat} (hk : k < Lw.length) (hne : k ≠ iN) : wantL Lw iN (k + 1) = wantL Lw iN k ++ [Lw[k]] := by
  unfold wantL
  rw [List.take_succ_eq_append_getElem hk]
  by_cases h : iN < k
  · rw [List.eraseIdx_append_of_lt_length (by simp; omega)]
  · rw [List.eraseIdx_append_of_length_le (by simp; omega), List.eraseIdx_of_length_le (l := Lw.take k) (by simp; omega)]
    congr 1
    have : 0 < iN - (List.take k Lw).length := by simp; omega
    rw [List.eraseIdx_of_length_le (by simp; omega)]
def WantRel (wX : World) (Lw : List Item) (iN k : Nat) (v : Value) (wr : World) : Prop :=
  wr.ownsRow wX.heap.size 33 2 v (wantL Lw iN k).length ((wantL Lw iN k).flatMap Item.cells) ∧ Below wX.heap.size wX wr

end Go.Proofs.Ytipobpcafkhknaa
