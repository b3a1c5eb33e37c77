/-
  Walks over package net: Drop, Grams.
-/
import Derived.Test.YtipobpcafkhknaaNetG
import Derived.Test.YtipobpcafkhknaaItems
namespace Go.Proofs.Ytipobpcafkhknaa
open Go.RowKit
set_option linter.unusedSimpArgs false
set_option linter.unusedVariables false

theorem info_Gram : (Try.prog.info? 33).map (fun i => (i.zero, i.size, i.bytes)) = some (some (.agg #[.int .u8 0, .slice none 0 0]), 2, 32) := by kernel_rfl

def Item.key (t : Item) : List Value × List Value × List UInt8 := (t.pre, t.post, t.b)
def G.key (g : G) : List Value × List Value × List UInt8 := ([.int .u8 g.to], [], g.b)

set_option maxRecDepth 100000 in
set_option maxHeartbeats 800000 in
theorem net_drop_none (nb : Nat) (l : List G) (F : List Nat) (i : Int) (w : World) (hn : NetRep w nb l F) (hl : l.length ≤ 4096) (hi : i < 0 ∨ l.length ≤ i) :
    Calls Try.prog 24 #[.pointer (some ⟨nb, 0, none⟩), .int .i64 i] w fun e w' => e = .returned (.bool false) ∧ Below w.heap.size w w' := by
  go_enter Try.func24, Try.ntmps24
  go_wp2_with (go_at_call 12; refine (net_take_none nb l F _ _ hn hl hi).mono ?_; rintro e w' ⟨rfl, hb⟩)
  go_ret
  exact ⟨rfl, hb.alloc hb.size _⟩

set_option maxRecDepth 100000 in
set_option maxHeartbeats 800000 in
theorem net_drop (nb : Nat) (l : List G) (F : List Nat) (i : Int) (w : World) (g : G) (hn : NetRep w nb l F) (hl : l.length ≤ 4096) (hi : 0 ≤ i) (hg : l[i.toNat]? = some g) :
    Calls Try.prog 24 #[.pointer (some ⟨nb, 0, none⟩), .int .i64 i] w (Moved (fun w' F' => NetRep w' nb (l.eraseIdx i.toNat) F') (.bool true) w F) := by
  have HG := hide hg
  clear hg
  go_enter Try.func24, Try.ntmps24
  go_wp2_with (go_at_call 12; refine (net_take nb l F _ _ g hn hl hi HG.out).mono ?_; rintro e w' ⟨gb, gc, F', rfl, hr, _, hch, hnd⟩)
  go_ret
  exact ⟨rfl, F', hr.same fun k hk => Below.heap_alloc _ _ _ (hr.lt k hk), (hch.sub fun k hk => List.mem_cons_of_mem _ hk).alloc _⟩

/-- all of them, in new memory -/
def GramsTold (w : World) (l : List G) (e : Ending) (w' : World) : Prop :=
  ∃ v L, e = .returned v ∧ Items w' 33 2 v L ∧ L.map Item.key = l.map G.key ∧ (∀ k ∈ itFp v L, w.heap.size ≤ k) ∧ Below w.heap.size w w'

def GramsRel (w : World) (l : List G) (k : Nat) (v : Value) (wr : World) : Prop :=
  ∃ L, Items wr 33 2 v L ∧ L.map Item.key = (l.take k).map G.key ∧ (∀ k ∈ itFp v L, w.heap.size ≤ k) ∧ Below w.heap.size w wr

theorem grams_step {w wr w1 w2 : World} {l : List G} {k : Nat} {v v' : Value} {g : G} {gb gc : Nat} {L : List Item} (hI : Items wr 33 2 v L) (hk : L.map Item.key = (l.take k).map G.key) (hf : ∀ k ∈ itFp v L, w.heap.size ≤ k)
    (hb : Below w.heap.size w wr) (hg : l[k]? = some g) (hb1 : Below wr.heap.size wr w1) (hx : w1.ownsRow 0 5 1 (.slice (some ⟨gb, 0, none⟩) g.b.length gc) g.b.length (bcells g.b)) (hgb : wr.heap.size ≤ gb)
    (hgrow : w1.grownBy w2 v.ownBlock) (hown2 : w2.ownsRow 0 33 2 v' (L.length + 1) (L.flatMap Item.cells ++ [.int .u8 g.to, .slice (some ⟨gb, 0, none⟩) g.b.length gc]))
    (hv' : v'.ownBlock = v.ownBlock ∨ v'.ownBlock = some w1.heap.size) : GramsRel w l (k + 1) v' w2 := by
  obtain ⟨h1, h2⟩ := hI.append (t := ⟨[.int .u8 g.to], .slice (some ⟨gb, 0, none⟩) g.b.length gc, [], g.b⟩) hb1 rfl (by simp [Item.cells, Value.oneCell']) hx (by simp [Value.ownBlock]; exact hgb) hgrow hown2 hv'
  have hlt := (List.getElem?_eq_some_iff.1 hg)
  refine ⟨_, h1, ?_, fun q hq => ?_, hb.trans (h2.below hb.size hf)⟩
  · rw [List.take_succ_eq_append_getElem hlt.1, List.map_append, List.map_append, hk]
    simp [hlt.2, Item.key, G.key]
  · rcases h2.fresh q hq with h3 | h3
    · exact hf q h3
    · exact Nat.le_trans hb.size h3

theorem run_field_gram (a b c : Value) (w : World) : (Instr.field 52 (.agg #[a, b, c]) 0).run Try.prog w = .ok (.agg #[a, b]) w := by kernel_rfl

set_option maxRecDepth 100000 in
set_option maxHeartbeats 1600000 in
theorem net_grams (nb : Nat) (l : List G) (F : List Nat) (w : World) (hn : NetRep w nb l F) (hl : l.length ≤ 4096) (hgl : ∀ g ∈ l, g.b.length ≤ 4096) :
    Calls Try.prog 13 #[.pointer (some ⟨nb, 0, none⟩)] w (GramsTold w l) := by
  obtain ⟨a0, cap0, c0⟩ := hn.head
  have hbase : GramsRel w l 0 (.slice none 0 0) w := ⟨[], Items.nil _ _ _, by simp, by simp [itFp, Value.ownBlock], Below.refl _ _⟩
  have HB := hide hbase
  have hfld := run_field_gram
  obtain ⟨i0, hi0, hz0, hz1, hz2⟩ := info_parts info_Gram
  clear hbase
  go_enter Try.func13, Try.ntmps13
  go_wp2
  go_loopw [3, 11] (fun v i wr => ∃ k : Nat, k ≤ l.length ∧ i = .int .i64 k ∧ GramsRel w l k v wr) (fun _ i _ => l.length - (intOf i).toNat)
  case atStart => exact ⟨0, Nat.zero_le _, rfl, HB.out⟩
  case round =>
    obtain ⟨k, hk, rfl, hrel⟩ := hrel
    by_cases hlt : k < l.length
    · obtain ⟨v0, L0, e1, e2, e3, e4, e5, e6⟩ := hn
      have hlt' : k < L0.length := by rw [e1] at hlt; simpa using hlt
      obtain ⟨ab, cap, g, gb, gc, rfl, hg', q0, q1, q2, hfz, hgne, hgo, _⟩ := NetRep.get (nb := nb) e5 e6 k hlt'
      obtain ⟨rfl, rfl⟩ : a0 = some ⟨ab, 0, none⟩ ∧ cap0 = cap := by
        have : w.cell? ⟨nb, 0, none⟩ = some (.slice (some ⟨ab, 0, none⟩) L0.length cap) := by simp [World.cell?, e4]
        rw [c0] at this
        simp only [Option.some.injEq, Value.slice.injEq] at this
        exact ⟨this.1, this.2.2⟩
      obtain ⟨L, r1, r2, r3, hb⟩ := hrel
      have hab : ab < w.heap.size := World.block_lt_of_cell? _ _ q0
      have b0 : wr.cell? ⟨ab, k * 3, none⟩ = some (.int .u8 g.to) := by rw [Nat.mul_comm k 3]; exact (hb.cell (p := ⟨ab, 3 * k, none⟩) hab).trans q0
      have b1 : wr.cell? ⟨ab, k * 3 + 1, none⟩ = some (.slice (some ⟨gb, 0, none⟩) g.b.length gc) := by rw [Nat.mul_comm k 3]; exact (hb.cell (p := ⟨ab, 3 * k + 1, none⟩) hab).trans q1
      have b2 : wr.cell? ⟨ab, k * 3 + 2, none⟩ = some (.bool g.bent) := by rw [Nat.mul_comm k 3]; exact (hb.cell (p := ⟨ab, 3 * k + 2, none⟩) hab).trans q2
      have hlg : l[k]? = some g := by rw [e1]; simp [hg']
      have hgg := hgl g (List.mem_of_getElem? hlg)
      have hrd : Rd wr (.slice (some ⟨gb, 0, none⟩) g.b.length gc) 1 g.b.length (bcells g.b) := (ownsRow_rd hgo).below hb fun b hb' => by simp [Value.ownBlock] at hb'; subst hb'; exact (hgo.lt gb rfl).2
      have HL := hide hlg; have HR := hide hrd; have R1 := hide r1; have R2 := hide r2; have R3 := hide r3; have HB := hide hb
      clear e1 e2 e3 e4 e5 e6 hg' q0 q1 q2 hfz hgne hgo hlg hrd r1 r2 r3 hb c0 hgl
      have hLl : L.length = k := by
        have := congrArg List.length R2.out
        simp only [List.length_map, List.length_take] at this
        omega
      have HLl := hide hLl; clear hLl
      go_wp2_with fail
      refine (gram_clone g.to g.bent ⟨gb, 0, none⟩ g.b.length gc (bcells g.b) _ (HR.out.alloc _) (bcells_one g.b) hgg).mono ?_
      rintro e w1 ⟨gx, cx, rfl, hgx, hown, hb1⟩
      have hbw : Below wr.heap.size wr w1 := ((Below.refl _ _).alloc (Nat.le_refl _) _).trans (hb1.mono (by simp))
      have HB1 := hide hbw; have HO := hide hown
      have hs1 : wr.heap.size ≤ w1.heap.size := hbw.size
      have hgx' : wr.heap.size ≤ gx := by simp at hgx; omega
      clear hb1 hbw hown hgx
      go_wp2_with (at_builtin; refine wpList_append_rd rfl (.tmp 15) (.tmp 19) 37 rfl 0 33 i0 (.agg #[.int .u8 0, .slice none 0 0]) 2 32 Try.underlying37 hi0 hz0 hz1 hz2 rfl (by decide) u3 L.length (L.flatMap Item.cells) rfl (ownsRow_below R1.out.row (HB1.out.alloc hs1 _) (Nat.le_refl _)) _ 1 [.int .u8 g.to, .slice (some ⟨gx, 0, none⟩) g.b.length cx] rfl (rd_new _ _ _ 1 2 (by simp) (by simp)) (by simp [Value.oneCell']) (by unfold maxLen; rw [HLl.out]; omega) (by rw [HLl.out]; omega) (by simp) ?_)
      intro v' w2 hown2 hgrow hnil hv'
      have hstep := grams_step R1.out R2.out R3.out HB.out HL.out (HB1.out.alloc hs1 _) ((ownsRow_base HO.out (Nat.zero_le _)).alloc _) hgx' hgrow hown2 (by simpa using hv')
      have HS := hide hstep
      clear hown2 hgrow hnil hv' hstep
      go_wp2
      go_roundw
      case rel => exact ⟨k + 1, by omega, by go_num, HS.out⟩
      case measure => simp [intOf]; omega
    · go_wp2
      go_ret
      obtain ⟨L, r1, r2, r3, r4⟩ := hrel
      rw [List.take_of_length_le (by omega)] at r2
      exact ⟨_, L, rfl, r1, r2, r3, r4⟩
end Go.Proofs.Ytipobpcafkhknaa
