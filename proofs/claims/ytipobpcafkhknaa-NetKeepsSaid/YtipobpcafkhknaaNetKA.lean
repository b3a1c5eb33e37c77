/-
  The law NetKeeps: the network, what was sent, and what both say.
-/
import Derived.Test.YtipobpcafkhknaaNetDA
namespace Go.Proofs.Ytipobpcafkhknaa
open Go.RowKit
set_option linter.unusedVariables false
set_option linter.unusedSimpArgs false

def gk (s : Int × List UInt8) : List Value × List Value × List UInt8 := ([.int .u8 s.1], [], s.2)
/-- the network, and the list of what was sent, apart, in memory of the law's own -/
def KS (W : World) (nb : Nat) (l : List G) (v : Value) (sl : List (Int × List UInt8)) (w : World) : Prop :=
  ∃ F S, NetRep w nb l F ∧ Items w 33 2 v S ∧ S.map Item.key = sl.map gk ∧ (∀ k ∈ F, k ∉ itFp v S) ∧ (∀ k ∈ F, W.heap.size ≤ k) ∧ (∀ k ∈ itFp v S, W.heap.size ≤ k) ∧ Below W.heap.size W w
theorem KS.low {W w w' : World} {nb : Nat} {l : List G} {v : Value} {sl : List (Int × List UInt8)} (h : KS W nb l v sl w) (hb : Below w.heap.size w w') : KS W nb l v sl w' := by
  obtain ⟨F, S, h1, h2, h3, h4, h5, h6, h7⟩ := h
  exact ⟨F, S, h1.below hb, h2.low hb, h3, h4, h5, h6, h7.trans (hb.mono h7.size)⟩
theorem KS.base {W w : World} {nb : Nat} {l : List G} {v : Value} {sl : List (Int × List UInt8)} (h : KS W nb l v sl w) : Below W.heap.size W w := by
  obtain ⟨F, S, h1, h2, h3, h4, h5, h6, h7⟩ := h
  exact h7
theorem KS.chg {W w w' : World} {nb : Nat} {l' : List G} {v : Value} {sl : List (Int × List UInt8)} {F F' : List Nat} {S : List Item} (h2 : Items w 33 2 v S) (h3 : S.map Item.key = sl.map gk) (h4 : ∀ k ∈ F, k ∉ itFp v S) (h5 : ∀ k ∈ F, W.heap.size ≤ k) (h6 : ∀ k ∈ itFp v S, W.heap.size ≤ k) (h7 : Below W.heap.size W w)
    (hn : NetRep w' nb l' F') (hc : Chg F F' w w') : KS W nb l' v sl w' := by
  have hlt := h2.lt
  refine ⟨F', S, hn, h2.same fun k hk => hc.block k (hlt k hk) fun hF => h4 k hF hk, h3, fun k hk hm => ?_, hc.up h7.size h5, h6, h7.trans (hc.below h7.size h5)⟩
  rcases hc.fresh k hk with hF | hge
  · exact h4 k hF hm
  · have := hlt k hm; omega
theorem KS.send {W w : World} {nb : Nat} {l : List G} {v : Value} {sl : List (Int × List UInt8)} (h : KS W nb l v sl w) (hl : Good l) {t : Int} {x : Value} {b : List UInt8} (ht : 0 ≤ t) (hx : Rd W x 1 b.length (bcells b)) (hb : b.length ≤ 9223372036854775807) :
    Calls Try.prog 10 #[.pointer (some ⟨nb, 0, none⟩), .int .u8 t, x] w fun e w' => e = .returned (.bool (sendS l t b).2) ∧ KS W nb (sendS l t b).1 v sl w' := by
  obtain ⟨F, S, h1, h2, h3, h4, h5, h6, h7⟩ := h
  refine (net_send_step nb l F t x b w h1 ht (hx.low h7) hb hl).mono ?_
  rintro e w' ⟨rfl, F', hr, hc⟩
  exact ⟨rfl, KS.chg h2 h3 h4 h5 h6 h7 hr hc⟩
/-- with a reference's network beside -/
def KSR (W : World) (nb rb : Nat) (l : List G) (v : Value) (sl : List (Int × List UInt8)) (w : World) : Prop :=
  ∃ F S, NetRep w nb l F ∧ Items w 33 2 v S ∧ S.map Item.key = sl.map gk ∧ (∀ k ∈ F, k ∉ itFp v S) ∧ (∀ k ∈ F, W.heap.size ≤ k) ∧ (∀ k ∈ itFp v S, W.heap.size ≤ k) ∧ Below W.heap.size W w ∧ RefRep w rb [] [rb] ∧ rb ∉ F ∧ rb ∉ itFp v S ∧ W.heap.size ≤ rb
theorem KSR.low {W w w' : World} {nb rb : Nat} {l : List G} {v : Value} {sl : List (Int × List UInt8)} (h : KSR W nb rb l v sl w) (hb : Below w.heap.size w w') : KSR W nb rb l v sl w' := by
  obtain ⟨F, S, h1, h2, h3, h4, h5, h6, h7, h8, h9⟩ := h
  exact ⟨F, S, h1.below hb, h2.low hb, h3, h4, h5, h6, h7.trans (hb.mono h7.size), h8.below hb, h9⟩
theorem KS.made {W w : World} {nb : Nat} {l : List G} {v : Value} {sl : List (Int × List UInt8)} (h : KS W nb l v sl w) : KSR W nb w.heap.size l v sl (w.alloc (.cells #[.slice none 0 0, .slice none 0 0] 46)) := by
  have hb : Below w.heap.size w (w.alloc (.cells #[.slice none 0 0, .slice none 0 0] 46)) := (Below.refl _ _).alloc (Nat.le_refl _) _
  obtain ⟨F, S, h1, h2, h3, h4, h5, h6, h7⟩ := h
  exact ⟨F, S, h1.below hb, h2.low hb, h3, h4, h5, h6, h7.trans (hb.mono h7.size), ref_new_rep w, fun hm => by have := h1.lt _ hm; omega, fun hm => by have := h2.lt _ hm; omega, h7.size⟩
theorem KSR.does {W w : World} {nb rb : Nat} {l : List G} {v : Value} {sl : List (Int × List UInt8)} (h : KSR W nb rb l v sl w) (hl : Good l) {kd to : Int} {xa : Option Addr} {b : List UInt8} {xc : Nat} {i a : Int} {x : UInt8} (hto : 0 ≤ to) (hx : Rd W (.slice xa b.length xc) 1 b.length (bcells b)) (hb : b.length ≤ 5000) :
    Calls Try.prog 16 #[.pointer (some ⟨nb, 0, none⟩), .pointer (some ⟨rb, 0, none⟩), opV kd to (.slice xa b.length xc) i a x.toNat] w fun e w' => ∃ r, e = .returned (.bool r) ∧ KS W nb (stepO l kd to b i a x) v sl w' := by
  obtain ⟨F, S, h1, h2, h3, h4, h5, h6, h7, h8, h9, h10, h11⟩ := h
  have hF : ∀ k ∈ F ++ [rb], W.heap.size ≤ k := fun k hk => by
    rcases List.mem_append.1 hk with hk | hk
    · exact h5 k hk
    · simp at hk; omega
  refine (does_any nb rb F [rb] l [] kd to xa b xc i a x w h1 h8 (fun k hk hm => by simp at hm; subst hm; exact h9 hk) hl ⟨by simp, fun g hg => by cases hg⟩ hto (hx.low h7) hb fun l1 l2 w' h => ?_).mono ?_
  · obtain ⟨F2, Fr2, _, _, _, hc⟩ := h
    exact hx.low (h7.trans (hc.below h7.size hF))
  · rintro e w' ⟨r, rfl, _, F2, Fr2, g1, g2, g3, hc⟩
    refine ⟨r, rfl, KS.chg h2 h3 (F := F ++ [rb]) (fun k hk hm => ?_) hF h6 h7 g1 (hc.sub fun k hk => List.mem_append_left _ hk)⟩
    rcases List.mem_append.1 hk with hk | hk
    · exact h4 k hk hm
    · simp at hk; subst hk; exact h10 hm
theorem KS.grams {W w : World} {nb : Nat} {l : List G} {v : Value} {sl : List (Int × List UInt8)} (h : KS W nb l v sl w) (hl : Good l) :
    Calls Try.prog 13 #[.pointer (some ⟨nb, 0, none⟩)] w fun e w' => ∃ a c, e = .returned (.slice a l.length c) ∧ GramsOf l (.slice a l.length c) w' ∧ Below w.heap.size w w' := by
  obtain ⟨F, S, h1, _⟩ := h
  refine (net_grams nb l F w h1 hl.len fun g hg => (hl.each g hg).2.1).mono ?_
  rintro e wg ⟨vg, Lg, rfl, hIg, hkg, hfg, hbg⟩
  have hg : GramsOf l vg wg := by
    refine ⟨Lg, hIg.rd, ?_⟩
    rw [List.map_map]
    exact hkg
  obtain ⟨a, c, rfl⟩ := RdGrams.head hg
  rw [List.length_map] at hg ⊢
  exact ⟨a, c, rfl, hg, hbg⟩
theorem KS.bent {W w : World} {nb : Nat} {l : List G} {v : Value} {sl : List (Int × List UInt8)} (h : KS W nb l v sl w) (hl : Good l) (i : Int) :
    Calls Try.prog 17 #[.pointer (some ⟨nb, 0, none⟩), .int .i64 i] w fun e w' => e = .returned (.bool (bentAt l i)) ∧ w = w' := by
  obtain ⟨F, S, h1, _⟩ := h
  unfold bentAt
  cases e : atG l i with
  | none => exact net_bent_none nb l F i w h1 hl.len (atG_none e)
  | some g =>
    obtain ⟨g1, g2⟩ := atG_some e
    have hlt := (List.getElem?_eq_some_iff.1 g2).1
    have := net_bent nb l F i w h1 hl.len g1 (by omega)
    rw [g2] at this
    exact this
theorem KS.sent {W w : World} {nb : Nat} {l : List G} {v : Value} {sl : List (Int × List UInt8)} (h : KS W nb l v sl w) : RdGrams w v sl := by
  obtain ⟨F, S, h1, h2, h3, _⟩ := h
  exact ⟨S, h2.rd, h3⟩
theorem KS.head {W w : World} {nb : Nat} {l : List G} {v : Value} {sl : List (Int × List UInt8)} (h : KS W nb l v sl w) : ∃ a c, v = .slice a sl.length c := h.sent.head
/-- one more in the list of what was sent -/
theorem KS.row {W w : World} {nb : Nat} {l : List G} {v : Value} {sl : List (Int × List UInt8)} (h : KS W nb l v sl w) : ∃ S : List Item, w.ownsRow 0 33 2 v sl.length (S.flatMap Item.cells) ∧
    ∀ (w1 w2 : World) (v' : Value) (t : Int) (b : List UInt8) (x : Value), Below w.heap.size w w1 → x.oneCell' = true → w1.ownsRow 0 5 1 x b.length (bcells b) → (∀ g, x.ownBlock = some g → w.heap.size ≤ g) → w1.grownBy w2 v.ownBlock → w2.ownsRow 0 33 2 v' (sl.length + 1) (S.flatMap Item.cells ++ [.int .u8 t, x]) →
      (v'.ownBlock = v.ownBlock ∨ v'.ownBlock = some w1.heap.size) → KS W nb l v' (sl ++ [(t, b)]) w2 := by
  obtain ⟨F, S, h1, h2, h3, h4, h5, h6, h7⟩ := h
  have hlen : S.length = sl.length := by have := congrArg List.length h3; simpa using this
  refine ⟨S, by rw [← hlen]; exact h2.row, fun w1 w2 v' t b x hb hx1 hx hxn hgrow hown hv' => ?_⟩
  obtain ⟨q1, q2⟩ := h2.append (t := ⟨[.int .u8 t], x, [], b⟩) hb rfl (fun u hu => by simp [Item.cells] at hu; exact hu.elim (fun e => by rw [e]; rfl) fun e => by rw [e]; exact hx1) hx hxn hgrow (by rw [hlen]; exact hown) hv'
  have hnl := h1.lt
  refine ⟨F, _, h1.same fun k hk => q2.block k (hnl k hk) fun hm => h4 k hk hm, q1, by simp [h3, Item.key, gk], fun k hk hm => ?_, h5, q2.up h7.size h6, h7.trans (q2.below h7.size h6)⟩
  rcases q2.fresh k hm with h8 | h8
  · exact h4 k hk h8
  · have := hnl k hk; omega

/-- while does is called: the reference's network is made, the call is done -/
def KD (W : World) (nb : Nat) (l l3 : List G) (v : Value) (sl : List (Int × List UInt8)) (d1 d6 : Bool) (p : Value) (w : World) : Prop :=
  if d6 then KS W nb l3 v sl w else if d1 then ∃ rb, p = .pointer (some ⟨rb, 0, none⟩) ∧ KSR W nb rb l v sl w else KS W nb l v sl w
theorem KD.base {W w : World} {nb : Nat} {l l3 : List G} {v : Value} {sl : List (Int × List UInt8)} {d1 d6 : Bool} {p : Value} (h : KD W nb l l3 v sl d1 d6 p w) : Below W.heap.size W w := by
  unfold KD at h
  split at h
  · exact h.base
  split at h
  · obtain ⟨rb, _, F, S, h1, h2, h3, h4, h5, h6, h7, h8, h9⟩ := h
    exact h7
  · exact h.base

/-- is a datagram known: bent, or among the first j that were sent? -/
def knB (q : Bool) (g : G) (sl : List (Int × List UInt8)) (j : Nat) : Bool := q || (sl.take j).any fun s => decide (s.1 = g.to) && (s.2 == g.b)
theorem knB_succ (q : Bool) (g : G) (sl : List (Int × List UInt8)) {j : Nat} {s : Int × List UInt8} (h : sl[j]? = some s) : knB q g sl (j + 1) = (knB q g sl j || (decide (s.1 = g.to) && (s.2 == g.b))) := by
  obtain ⟨hj, he⟩ := List.getElem?_eq_some_iff.1 h
  unfold knB
  rw [List.take_succ_eq_append_getElem hj, List.any_append, he]
  simp [Bool.or_assoc]
/-- each on its way was bent, or sent -/
def KeptP (l : List G) (sl : List (Int × List UInt8)) : Prop := ∀ g ∈ l, g.bent = true ∨ (g.to, g.b) ∈ sl
theorem kept_send {l : List G} {sl : List (Int × List UInt8)} {t : Int} {b : List UInt8} (h : KeptP l sl) (hs : (sendS l t b).2 = true) : KeptP (sendS l t b).1 (sl ++ [(t, b)]) := by
  unfold sendS at hs ⊢
  split at hs
  · rename_i hc
    rw [if_pos hc]
    intro g hg
    rcases List.mem_append.1 hg with hg | hg
    · rcases h g hg with h | h
      · exact .inl h
      · exact .inr (List.mem_append_left _ h)
    · simp at hg; subst hg; exact .inr (by simp)
  · cases hs
theorem kept_send_no {l : List G} {t : Int} {b : List UInt8} (hs : (sendS l t b).2 = false) : (sendS l t b).1 = l := by
  unfold sendS at hs ⊢
  split at hs
  · cases hs
  · rename_i hc; rw [if_neg hc]
theorem sendS_good {l : List G} {t : Int} {b : List UInt8} (h : Good l) (ht : 0 ≤ t) : Good (sendS l t b).1 ∧ (sendS l t b).1.length ≤ l.length + 1 := by
  unfold sendS
  split
  · rename_i hc
    refine ⟨⟨by simp; omega, fun g hg => ?_⟩, by simp⟩
    rcases List.mem_append.1 hg with hg | hg
    · exact h.each g hg
    · simp at hg; subst hg
      exact ⟨by intro e; simp only at e; rw [e] at hc; simp at hc, hc.2.2.1, ht, hc.1⟩
  · exact ⟨h, by simp⟩
theorem kept_step {l : List G} {sl : List (Int × List UInt8)} {kd to : Int} {b : List UInt8} {i a : Int} {x : UInt8} (h : KeptP l sl) (hk : 3 < kd.tmod 8) (hk0 : kd.tmod 8 < 8) : KeptP (stepO l kd to b i a x) sl := by
  unfold stepO
  split
  · unfold dropS
    split
    · exact fun g hg => h g (List.mem_of_mem_eraseIdx hg)
    · exact h
  split
  · unfold twiceS
    split
    · rename_i g hg
      split
      · intro q hq
        rcases List.mem_append.1 hq with hq | hq
        · exact h q hq
        · simp at hq; subst hq
          exact h q (List.mem_of_getElem? (atG_some hg).2)
      · exact h
    · exact h
  split
  · unfold bendS
    split
    · split
      · intro q hq
        rcases List.mem_or_eq_of_mem_set hq with hq | hq
        · exact h q hq
        · subst hq; exact .inl rfl
      · exact h
    · exact h
  · omega
theorem knB_all {l : List G} {sl : List (Int × List UInt8)} (h : KeptP l sl) {g : G} (hg : g ∈ l) : knB g.bent g sl sl.length = true := by
  unfold knB
  rw [List.take_of_length_le (Nat.le_refl _)]
  rcases h g hg with h | h
  · simp [h]
  · rw [List.any_eq_true.2 ⟨_, h, by simp⟩]; simp
end Go.Proofs.Ytipobpcafkhknaa
