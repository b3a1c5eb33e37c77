/-
  Send, on both networks; the law's helper 'does' as a whole.
-/
import Derived.Test.YtipobpcafkhknaaNetY
namespace Go.Proofs.Ytipobpcafkhknaa
open Go.RowKit
set_option linter.unusedVariables false
set_option linter.unusedSimpArgs false

theorem Took.net {w W : World} {nb rb : Nat} {F0 : List Nat} {l lr : List G} {ax : Option Addr} {n cx : Nat} {f : FuncId} {args : Array Value} {r : List G × Bool} (h : Took w nb rb F0 l lr ax n cx W) (hc : ∀ F, NetRep W nb l F → Calls Try.prog f args W (Stepped (fun w l F => NetRep w nb l F) W F r)) :
    Calls Try.prog f args W fun e w' => e = .returned (.bool r.2) ∧ Took w nb rb F0 r.1 lr ax n cx w' := by
  obtain ⟨F, Fr, h1, h2, h3, h5, h4⟩ := h.both
  obtain ⟨bs, e0, ho⟩ := h.own
  refine (hc F h1).mono ?_
  rintro e w' ⟨rfl, F', h7, h6⟩
  have hlt := h2.lt
  refine ⟨rfl, ⟨F', Fr, h7, h2.same fun k hk => h6.block k (hlt k hk) fun hF => h3 k hF hk, fun k hk hr => ?_, fun q hq => ⟨fun hm => ?_, (h5 q hq).2⟩, h4.trans ⟨h6.os, h6.tape, h6.output, h6.size, fun k hk hn => h6.block k hk fun hF => hn (by simp [hF]), fun k hk => ?_⟩⟩, bs, e0, ownsRow_same ho fun q hq => h6.block q (ho.lt q hq).2 (h5 q hq).1⟩
  · rcases h6.fresh k hk with hF | hge
    · exact h3 k hF hr
    · have := hlt k hr; omega
  · rcases h6.fresh q hm with hF | hge
    · exact (h5 q hq).1 hF
    · have := (ho.lt q hq).2; omega
  · simp only [List.mem_append] at hk ⊢
    rcases hk with hk | hk | hk
    · exact .inl (.inl hk)
    · rcases h6.fresh k hk with hF | hge
      · exact .inl (.inr (.inl hF))
      · exact .inr hge
    · exact .inl (.inr (.inr hk))
theorem Two.rd {W w : World} {nb rb : Nat} {F0 : List Nat} {l lr : List G} {x : Value} {s m : Nat} {xs : List Value} (h : Two W nb rb F0 l lr w) (hx : Rd W x s m xs) (hq : ∀ q, x.ownBlock = some q → q ∉ F0) : Rd w x s m xs := by
  obtain ⟨F, Fr, h1, h2, h3, h4⟩ := h
  exact hx.kept fun b hb hlt => h4.block b hlt (hq b hb)

set_option maxRecDepth 100000 in
set_option maxHeartbeats 3200000 in
theorem does_send (nb rb : Nat) (F Fr : List Nat) (l lr : List G) (kd to : Int) (xa : Option Addr) (b : List UInt8) (xc : Nat) (i a x : Int) (w : World) (h1 : NetRep w nb l F) (h2 : RefRep w rb lr Fr) (h3 : ∀ k ∈ F, k ∉ Fr) (hl : Good l) (hlr : Good lr)
    (hk : kd.tmod 8 ≠ 3 ∧ kd.tmod 8 ≠ 4 ∧ kd.tmod 8 ≠ 5 ∧ kd.tmod 8 ≠ 6 ∧ kd.tmod 8 ≠ 7) (hto : 0 ≤ to) (hx : Rd w (.slice xa b.length xc) 1 b.length (bcells b)) (hb : b.length ≤ 5000) (hxF : ∀ l1 l2 w', Two w nb rb (F ++ Fr) l1 l2 w' → Rd w' (.slice xa b.length xc) 1 b.length (bcells b)) :
    Calls Try.prog 16 #[.pointer (some ⟨nb, 0, none⟩), .pointer (some ⟨rb, 0, none⟩), opV kd to (.slice xa b.length xc) i a x] w (Done w nb rb (F ++ Fr) l lr (sendS l to b).1 (sendS lr to b).1) := by
  have hlt : ∀ k ∈ F ++ Fr, k < w.heap.size := fun k hk => (List.mem_append.1 hk).elim (h1.lt k) (h2.lt k)
  have H1 := hide h1; have H2 := hide h2; have H3 := hide h3; have HL := hide hl; have HLR := hide hlr; have HLT := hide hlt; have HXF := hide hxF
  have b3 : (kd.tmod 8 == 3) = false := by simpa using hk.1
  have b4 : (kd.tmod 8 == 4) = false := by simpa using hk.2.1
  have b5 : (kd.tmod 8 == 5) = false := by simpa using hk.2.2.1
  have b6 : (kd.tmod 8 == 6) = false := by simpa using hk.2.2.2.1
  have b7 : (kd.tmod 8 == 7) = false := by simpa using hk.2.2.2.2
  obtain ⟨i0, hi0, hz0, hz1, hz2⟩ := info_parts info_u8
  clear h1 h2 h3 hl hlr hlt hk hxF
  unfold opV
  go_enter Try.func16, Try.ntmps16
  go_wp2_with (at_builtin; refine wpList_append_rd rfl (.tmp 114) (.tmp 116) 22 rfl 0 5 i0 (.int .u8 0) 1 1 Try.underlying22 hi0 hz0 hz1 hz2 rfl (by decide) (.slice none 0 0) 0 [] rfl (World.ownsRow_nil _ _ _ _) _ b.length (bcells b) rfl (hx.alloc _) (bcells_one b) (by unfold maxLen; omega) (by omega) (by simp) ?_)
  intro v w1 hown hgrow hnil hv
  obtain ⟨w0, hw0⟩ : ∃ w0, w0 = w.alloc (opObj kd to (.slice xa b.length xc) i a x) := ⟨_, rfl⟩
  have hb0 : Below w.heap.size w w0 := by rw [hw0]; exact (Below.refl _ _).alloc (Nat.le_refl _) _
  have c1 : w0.cell? ⟨w.heap.size, 1, none⟩ = some (.int .u8 to) := by rw [hw0]; simp [opObj, go_sem]
  have c2 : w0.cell? ⟨w.heap.size, 2, none⟩ = some (.slice xa b.length xc) := by rw [hw0]; simp [opObj, go_sem]
  have hs0 : w0.heap.size = w.heap.size + 1 := by rw [hw0]; simp
  rw [show w.alloc (.cells #[.int .u8 kd, .int .u8 to, .slice xa b.length xc, .int .i64 i, .int .i64 a, .int .u8 x] 31) = w0 from hw0.symm] at hgrow
  have hb1 : Below w0.heap.size w0 w1 := (Below.refl _ _).grown hgrow (Nat.le_refl _) (by simp [Value.ownBlock])
  have hbw : Below w.heap.size w w1 := hb0.trans (hb1.mono (by omega))
  have hs1 := hb1.size
  obtain ⟨ax, cx, rfl⟩ := (ownsRow_rd hown).head
  have hvq : ∀ q, (Value.slice ax b.length cx).ownBlock = some q → q = w.heap.size + 1 := fun q hq => by
    rcases hv with e | e
    · rw [hq] at e; simp [Value.ownBlock] at e
    · rw [hq] at e; exact Option.some.inj e
  have hT0 : Took w0 nb rb (F ++ Fr) l lr ax b.length cx w1 := by
    refine ⟨⟨F, Fr, H1.out.below hbw, H2.out.below hbw, H3.out, fun q hq => ?_, hb1.os, hb1.tape, hb1.output, hb1.size, fun k hk _ => hb1.block k hk, fun k hk => ?_⟩, b, rfl, hown⟩
    · have e := hvq q hq
      exact ⟨fun hm => by have := HLT.out q (by simp [hm]); omega, fun hm => by have := HLT.out q (by simp [hm]); omega⟩
    · rcases List.mem_append.1 hk with hk | hk
      · have := hvq k (by simpa using hk); exact .inr (by omega)
      · exact .inl hk
  have hRd : Rd w1 (.slice ax b.length cx) 1 b.length (bcells b) := ownsRow_rd hown
  have d1 := (hb1.cell (p := ⟨w.heap.size, 1, none⟩) (show w.heap.size < w0.heap.size by omega)).trans c1
  have hq0 : w.heap.size ∉ F ++ Fr := fun hm => Nat.lt_irrefl _ (HLT.out _ hm)
  have HT0 := hide hT0; have HRD := hide hRd; have HC1 := hide c1; have HC2 := hide c2; have HB0 := hide hb0
  clear hown hgrow hnil hv hw0 hb1 hbw hvq hT0 hRd hx c1 c2 hb0
  go_wp2_with fail
  refine (HT0.out.net fun F' hn => net_send_step nb l F' to _ b w1 hn hto HRD.out (by omega) HL.out).mono ?_
  rintro e w2 ⟨rfl, hT⟩
  have HT := hide hT
  clear hT
  obtain ⟨rn, hrn⟩ : ∃ rn, rn = (sendS l to b).2 := ⟨_, rfl⟩
  rw [← hrn]
  have HRN := hide hrn
  clear hrn d1
  go_wp2
  go_loopw [15] (fun i' wc => ∃ (k : Nat), k ≤ b.length ∧ i' = .int .i64 k ∧ Hid (Took w0 nb rb (F ++ Fr) (sendS l to b).1 lr ax b.length cx wc)) (fun i' _ => b.length - (intOf i').toNat)
  case atStart => exact ⟨0, Nat.zero_le _, rfl, HT⟩
  case round =>
    obtain ⟨k, hk, rfl, hT⟩ := hrel
    by_cases hlt : k < b.length
    · obtain ⟨gb, y, rfl, y1, y2, hgl, hset⟩ := hT.out.byte hlt
      have j1 : (0 : Int) ≤ (k : Int) := by omega
      have j2 : (k : Int) < (b.length : Int) := by omega
      have hT3 := hset (y ^^^ 255)
      have hyb : y.toNat < 256 := y.toNat_lt
      have hval : (((y ^^^ 255).toNat : Nat) : Int) = bits .xor .u8 (y.toNat : Int) 255 := by
        rw [UInt8.toNat_xor]; exact (u8_xor_nat y.toNat 255 hyb (by omega)).symm
      rw [hval] at hT3
      have HT3 := hide hT3
      clear hT hval hT3 hset
      go_wp2
      go_roundw
      case rel => exact ⟨k + 1, by omega, by go_num, HT3⟩
      case measure => simp [intOf]; omega
    · have hTw := hT.out.two
      have e1 := (hTw.cell (q := w.heap.size) 1 (by omega) hq0).trans HC1.out
      have e2 := (hTw.cell (q := w.heap.size) 2 (by omega) hq0).trans HC2.out
      have hxr := HXF.out _ _ wr (hTw.back HB0.out)
      have HTW := hide hTw; have HXR := hide hxr
      clear hTw hxr
      go_wp2_with fail
      refine (HTW.out.ref fun F' hr => ref_send_step rb lr F' to _ b wr hr hto HXR.out (by omega) HLR.out).mono ?_
      rintro e w5 ⟨rfl, hT5⟩
      have HT5 := hide hT5
      clear hT5
      go_wp2
      go_ret
      refine ⟨_, rfl, fun e => ?_, HT5.out.back HB0.out⟩
      subst e
      simp [HRN.out]

/-- one operation, on a list -/
def stepO (l : List G) (kd to : Int) (b : List UInt8) (i a : Int) (x : UInt8) : List G :=
  if kd.tmod 8 = 3 ∨ kd.tmod 8 = 4 then (dropS l i).1 else if kd.tmod 8 = 5 then (twiceS l i).1 else if kd.tmod 8 = 6 ∨ kd.tmod 8 = 7 then (bendS l i a x).1 else (sendS l to b).1

theorem does_any (nb rb : Nat) (F Fr : List Nat) (l lr : List G) (kd to : Int) (xa : Option Addr) (b : List UInt8) (xc : Nat) (i a : Int) (x : UInt8) (w : World) (h1 : NetRep w nb l F) (h2 : RefRep w rb lr Fr) (h3 : ∀ k ∈ F, k ∉ Fr) (hl : Good l) (hlr : Good lr)
    (hto : 0 ≤ to) (hx : Rd w (.slice xa b.length xc) 1 b.length (bcells b)) (hb : b.length ≤ 5000) (hxF : ∀ l1 l2 w', Two w nb rb (F ++ Fr) l1 l2 w' → Rd w' (.slice xa b.length xc) 1 b.length (bcells b)) :
    Calls Try.prog 16 #[.pointer (some ⟨nb, 0, none⟩), .pointer (some ⟨rb, 0, none⟩), opV kd to (.slice xa b.length xc) i a x.toNat] w (Done w nb rb (F ++ Fr) l lr (stepO l kd to b i a x) (stepO lr kd to b i a x)) := by
  by_cases k3 : kd.tmod 8 = 3
  · have e : ∀ l, stepO l kd to b i a x = (dropS l i).1 := fun l => by unfold stepO; rw [if_pos (.inl k3)]
    rw [e, e]
    exact does_take nb rb F Fr l lr kd to xa b.length xc i a _ w h1 h2 h3 hl hlr k3
  by_cases k4 : kd.tmod 8 = 4
  · have e : ∀ l, stepO l kd to b i a x = (dropS l i).1 := fun l => by unfold stepO; rw [if_pos (.inr k4)]
    rw [e, e]
    exact does_drop nb rb F Fr l lr kd to xa b.length xc i a _ w h1 h2 h3 hl hlr k4
  have n34 : ¬ (kd.tmod 8 = 3 ∨ kd.tmod 8 = 4) := fun h => h.elim k3 k4
  by_cases k5 : kd.tmod 8 = 5
  · have e : ∀ l, stepO l kd to b i a x = (twiceS l i).1 := fun l => by unfold stepO; rw [if_neg n34, if_pos k5]
    rw [e, e]
    exact does_twice nb rb F Fr l lr kd to xa b.length xc i a _ w h1 h2 h3 hl hlr k5
  by_cases k6 : kd.tmod 8 = 6
  · have e : ∀ l, stepO l kd to b i a x = (bendS l i a x).1 := fun l => by unfold stepO; rw [if_neg n34, if_neg k5, if_pos (.inl k6)]
    rw [e, e]
    exact does_bend6 nb rb F Fr l lr kd to xa b.length xc i a x w h1 h2 h3 hl hlr k6
  by_cases k7 : kd.tmod 8 = 7
  · have e : ∀ l, stepO l kd to b i a x = (bendS l i a x).1 := fun l => by unfold stepO; rw [if_neg n34, if_neg k5, if_pos (.inr k7)]
    rw [e, e]
    exact does_bend7 nb rb F Fr l lr kd to xa b.length xc i a x w h1 h2 h3 hl hlr k7
  have e : ∀ l, stepO l kd to b i a x = (sendS l to b).1 := fun l => by unfold stepO; rw [if_neg n34, if_neg k5, if_neg fun h => h.elim k6 k7]
  rw [e, e]
  exact does_send nb rb F Fr l lr kd to xa b xc i a _ w h1 h2 h3 hl hlr ⟨k3, k4, k5, k6, k7⟩ hto hx hb hxF

theorem good_set {l : List G} {n : Nat} {g : G} (h : Good l) (hg : g.b ≠ [] ∧ g.b.length ≤ 4096 ∧ 0 ≤ g.to ∧ g.to ≤ 1) : Good (l.set n g) :=
  ⟨by rw [List.length_set]; exact h.len, fun s hs => by
    rcases List.mem_or_eq_of_mem_set hs with h2 | h2
    · exact h.each s h2
    · subst h2; exact hg⟩
theorem good_app {l : List G} {g : G} (h : Good l) (hl : l.length < 4096) (hg : g.b ≠ [] ∧ g.b.length ≤ 4096 ∧ 0 ≤ g.to ∧ g.to ≤ 1) : Good (l ++ [g]) :=
  ⟨by simp; omega, fun s hs => by
    rcases List.mem_append.1 hs with h2 | h2
    · exact h.each s h2
    · rw [List.mem_singleton.1 h2]; exact hg⟩
theorem stepO_good {l : List G} {kd to : Int} {b : List UInt8} {i a : Int} {x : UInt8} (h : Good l) (hto : 0 ≤ to) : Good (stepO l kd to b i a x) ∧ (stepO l kd to b i a x).length ≤ l.length + 1 := by
  unfold stepO
  split
  · unfold dropS
    split
    · refine ⟨⟨Nat.le_trans (List.length_eraseIdx_le _ _) h.len, fun s hs => h.each s (List.mem_of_mem_eraseIdx hs)⟩, ?_⟩
      have := List.length_eraseIdx_le l i.toNat
      simp only; omega
    · exact ⟨h, by simp⟩
  split
  · unfold twiceS
    split
    · rename_i g hg
      have hm := h.each g (List.mem_of_getElem? (atG_some hg).2)
      split
      · exact ⟨good_app h (by assumption) hm, by simp⟩
      · exact ⟨h, by simp⟩
    · exact ⟨h, by simp⟩
  split
  · unfold bendS
    split
    · rename_i g hg
      have hm := h.each g (List.mem_of_getElem? (atG_some hg).2)
      split
      · refine ⟨good_set h ⟨?_, by simpa using hm.2.1, hm.2.2⟩, by simp⟩
        intro e
        have := congrArg List.length e
        simp at this
        exact hm.1 this
      · exact ⟨h, by simp⟩
    · exact ⟨h, by simp⟩
  · unfold sendS
    split
    · rename_i hc
      refine ⟨good_app h hc.2.2.2 ⟨?_, hc.2.2.1, hto, hc.1⟩, by simp⟩
      intro e
      simp only at e
      rw [e] at hc
      simp at hc
    · exact ⟨h, by simp⟩
end Go.Proofs.Ytipobpcafkhknaa
