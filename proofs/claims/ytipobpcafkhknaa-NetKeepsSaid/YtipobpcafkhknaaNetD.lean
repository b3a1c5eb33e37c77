/-
  Walks over package net: Send that is refused, Twice, Bent, Bend.
-/
import Derived.Test.YtipobpcafkhknaaNetC
namespace Go.Proofs.Ytipobpcafkhknaa
open Go.RowKit
set_option linter.unusedSimpArgs false
set_option linter.unusedVariables false

theorem NetRep.head {w : World} {nb : Nat} {l : List G} {F : List Nat} (h : NetRep w nb l F) : ∃ a c, w.cell? ⟨nb, 0, none⟩ = some (.slice a l.length c) := by
  obtain ⟨v, L, rfl, rfl, hnd, h0, h1, h2⟩ := h
  rcases h1.2 with ⟨rfl, h⟩ | ⟨g, cap, _, rfl, _⟩
  · exact ⟨none, 0, by simp [World.cell?, h0, h]⟩
  · exact ⟨some ⟨g, 0, none⟩, cap, by simp [World.cell?, h0]⟩

set_option maxHeartbeats 400000 in
theorem net_send_no (nb : Nat) (l : List G) (F : List Nat) (t : Int) (a : Option Addr) (m c : Nat) (w : World) (hn : NetRep w nb l F) (hm63 : m ≤ 9223372036854775807) (hl : l.length ≤ 4096)
    (hno : 1 < t ∨ m = 0 ∨ 4096 < m ∨ l.length = 4096) :
    Calls Try.prog 10 #[.pointer (some ⟨nb, 0, none⟩), .int .u8 t, .slice a m c] w fun e w' => e = .returned (.bool false) ∧ w = w' := by
  obtain ⟨a0, c0, hc⟩ := hn.head
  by_cases h1 : 1 < t
  · go_enter Try.func10, Try.ntmps10
    go_wp2
    go_ret
    exact ⟨rfl, rfl⟩
  by_cases h2 : m = 0
  · have h2' : ((m : Int) == 0) = true := by simp [h2]
    clear h2
    go_enter Try.func10, Try.ntmps10
    go_wp2
    go_ret
    exact ⟨rfl, rfl⟩
  have h2' : ((m : Int) == 0) = false := by simp [h2]
  by_cases h3 : 4096 < m
  · clear h2
    go_enter Try.func10, Try.ntmps10
    go_wp2
    go_ret
    exact ⟨rfl, rfl⟩
  have h4 : 4096 ≤ l.length := by omega
  clear h2 hno
  go_enter Try.func10, Try.ntmps10
  go_wp2
  go_ret
  exact ⟨rfl, rfl⟩

theorem gflat_get : ∀ (L : List (G × Value)) (i : Nat), i < L.length → ∃ g v, L[i]? = some (g, v) ∧ (gflat L)[3 * i]? = some (.int .u8 g.to) ∧ (gflat L)[3 * i + 1]? = some v ∧ (gflat L)[3 * i + 2]? = some (.bool g.bent)
  | (g, v) :: L, 0, _ => ⟨g, v, rfl, rfl, rfl, rfl⟩
  | (g, v) :: L, i + 1, h => by
    obtain ⟨g', v', h1, h2, h3, h4⟩ := gflat_get L i (by simpa using h)
    refine ⟨g', v', by simpa using h1, ?_, ?_, ?_⟩
    · rw [show 3 * (i + 1) = 3 * i + 1 + 1 + 1 from by omega]; simpa [gflat] using h2
    · rw [show 3 * (i + 1) + 1 = (3 * i + 1) + 1 + 1 + 1 from by omega]; simpa [gflat] using h3
    · rw [show 3 * (i + 1) + 2 = (3 * i + 2) + 1 + 1 + 1 from by omega]; simpa [gflat] using h4

/-- the i-th datagram, as it lies in memory -/
theorem NetRep.get {w : World} {nb : Nat} {v : Value} {L : List (G × Value)} (h1 : w.ownsRow 0 52 3 v L.length (gflat L))
    (h2 : ∀ p ∈ L, w.ownsRow 0 5 1 p.2 p.1.b.length (bcells p.1.b) ∧ p.1.b ≠ []) (i : Nat) (hi : i < L.length) :
    ∃ ab cap g gb gc, v = .slice (some ⟨ab, 0, none⟩) L.length cap ∧ L[i]? = some (g, .slice (some ⟨gb, 0, none⟩) g.b.length gc) ∧
      w.cell? ⟨ab, 3 * i, none⟩ = some (.int .u8 g.to) ∧ w.cell? ⟨ab, 3 * i + 1, none⟩ = some (.slice (some ⟨gb, 0, none⟩) g.b.length gc) ∧ w.cell? ⟨ab, 3 * i + 2, none⟩ = some (.bool g.bent) ∧
      (∀ o, w.frozen? ⟨ab, o, none⟩ = false) ∧ g.b ≠ [] ∧ w.ownsRow 0 5 1 (.slice (some ⟨gb, 0, none⟩) g.b.length gc) g.b.length (bcells g.b) ∧ cap * 3 ≤ maxLen * 3 := by
  obtain ⟨g, x, hg, e0, e1, e2⟩ := gflat_get L i hi
  obtain ⟨ab, cap, cur, rfl, _, hh, hle, hcap, hsz, htake⟩ : ∃ ab cap cur, v = .slice (some ⟨ab, 0, none⟩) L.length cap ∧ 0 ≤ ab ∧ w.heap[ab]? = some (.cells cur 52 (0, 0)) ∧ L.length ≤ cap ∧ cap ≤ maxLen ∧ cur.size = cap * 3 ∧ cur.toList.take (L.length * 3) = gflat L := by
    rcases h1.2 with ⟨_, h⟩ | h
    · omega
    · exact h
  have hcell : ∀ k u, (gflat L)[k]? = some u → w.cell? ⟨ab, k, none⟩ = some u := by
    intro k u hu
    rw [cell_of_row w ab k cur _ _ hh]
    rw [← htake, List.getElem?_take] at hu
    split at hu
    · simpa using hu
    · cases hu
  obtain ⟨hx, hb⟩ := h2 _ (List.mem_of_getElem? hg)
  obtain ⟨gb, gc, hxe, _⟩ := ownsRow_some hx (by
    intro e
    have := hx.1
    have h0 : x = .slice none 0 0 := e
    rcases hx.2 with ⟨_, hz⟩ | ⟨_, _, _, hz, _⟩
    · exact hb (List.eq_nil_of_length_eq_zero hz)
    · rw [h0] at hz; cases hz)
  have hxe : x = .slice (some ⟨gb, 0, none⟩) g.b.length gc := hxe
  subst hxe
  exact ⟨ab, cap, g, gb, gc, rfl, hg, hcell _ _ e0, hcell _ _ e1, hcell _ _ e2, fun o => by simp [World.frozen?, hh], hb, hx, Nat.mul_le_mul_right 3 hcap⟩

set_option maxHeartbeats 400000 in
theorem net_bent (nb : Nat) (l : List G) (F : List Nat) (i : Int) (w : World) (hn : NetRep w nb l F) (hl : l.length ≤ 4096) (hi : 0 ≤ i) (hi' : i < l.length) :
    Calls Try.prog 17 #[.pointer (some ⟨nb, 0, none⟩), .int .i64 i] w fun e w' => e = .returned (.bool ((l[i.toNat]?.map (·.bent)).getD false)) ∧ w = w' := by
  obtain ⟨v, L, rfl, rfl, hnd, h0, h1, h2⟩ := hn
  obtain ⟨i, rfl⟩ := Int.eq_ofNat_of_zero_le hi
  have hi2 : i < L.length := by simpa using hi'
  obtain ⟨ab, cap, g, gb, gc, rfl, hg, e0, e1, e2, _⟩ := NetRep.get (nb := nb) h1 h2 i hi2
  have c0 : w.cell? ⟨nb, 0, none⟩ = some (.slice (some ⟨ab, 0, none⟩) L.length cap) := by simp [World.cell?, h0]
  have e2' : w.cell? ⟨ab, i * 3 + 2, none⟩ = some (.bool g.bent) := by rw [Nat.mul_comm i 3]; exact e2
  have hend : ((L.map (·.1))[i]?.map (·.bent)).getD false = g.bent := by simp [hg]
  have HE := hide hend
  have hl' : L.length ≤ 4096 := by simpa using hl
  clear hend h0 h1 h2 hnd hg
  go_enter Try.func17, Try.ntmps17
  go_wp2_with (go_at_call 21; refine (net_at nb ab 0 L.length cap _ _ hl' c0 (by omega) (by omega)).mono ?_; rintro e w' ⟨rfl, rfl⟩)
  go_ret
  exact ⟨by rw [show ((i : Int)).toNat = i from by omega, HE.out]; rfl, rfl⟩

set_option maxHeartbeats 400000 in
theorem net_bent_none (nb : Nat) (l : List G) (F : List Nat) (i : Int) (w : World) (hn : NetRep w nb l F) (hl : l.length ≤ 4096) (hi : i < 0 ∨ l.length ≤ i) :
    Calls Try.prog 17 #[.pointer (some ⟨nb, 0, none⟩), .int .i64 i] w fun e w' => e = .returned (.bool false) ∧ w = w' := by
  obtain ⟨a0, c0, hc⟩ := hn.head
  go_enter Try.func17, Try.ntmps17
  go_wp2_with (go_at_call 21; refine (net_at_none nb l.length c0 a0 _ _ hl hc hi).mono ?_; rintro e w' ⟨rfl, rfl⟩)
  go_ret
  exact ⟨rfl, rfl⟩

theorem gflat_set : ∀ (L : List (G × Value)) (i : Nat) (g g' : G) (x : Value), L[i]? = some (g, x) → g'.to = g.to → gflat (L.set i (g', x)) = (gflat L).set (3 * i + 2) (.bool g'.bent)
  | (g0, v) :: L, 0, g, g', x, h, ht => by
    simp only [List.getElem?_cons_zero, Option.some.injEq, Prod.mk.injEq] at h
    obtain ⟨rfl, rfl⟩ := h
    simp [gflat, ht]
  | (g0, v) :: L, i + 1, g, g', x, h, ht => by
    have := gflat_set L i g g' x (by simpa using h) ht
    rw [show 3 * (i + 1) + 2 = (3 * i + 2) + 1 + 1 + 1 from by omega]
    simp [gflat, this]
theorem netFp_set (nb : Nat) (v : Value) (L : List (G × Value)) (i : Nat) (g g' : G) (x : Value) (h : L[i]? = some (g, x)) : netFp nb v (L.set i (g', x)) = netFp nb v L := by
  have : ∀ (L : List (G × Value)) (i : Nat), L[i]? = some (g, x) → (L.set i (g', x)).flatMap (fun p => p.2.ownBlock.toList) = L.flatMap fun p => p.2.ownBlock.toList := by
    intro L
    induction L with
    | nil => intro i h; simp at h
    | cons p L ih =>
      intro i h
      cases i with
      | zero => simp at h; subst h; simp
      | succ i => simp only [List.set_cons_succ, List.flatMap_cons]; rw [ih i (by simpa using h)]
  simp [netFp, this L i h]
theorem bcells_set (b : List UInt8) (k : Nat) (y : UInt8) : bcells (b.set k y) = (bcells b).set k (.int .u8 y.toNat) := by simp [bcells, List.map_set]

/-- the bytes, then the mark of a datagram are written -/
theorem bend_close {w : World} {nb ab cap i k gb gc : Nat} {L : List (G × Value)} {g : G} {y : UInt8}
    (h0 : w.heap[nb]? = some (.cells #[.slice (some ⟨ab, 0, none⟩) L.length cap] 50 (0, 0))) (h1 : w.ownsRow 0 52 3 (.slice (some ⟨ab, 0, none⟩) L.length cap) L.length (gflat L))
    (h2 : ∀ p ∈ L, w.ownsRow 0 5 1 p.2 p.1.b.length (bcells p.1.b) ∧ p.1.b ≠ []) (hnd : (netFp nb (.slice (some ⟨ab, 0, none⟩) L.length cap) L).Nodup)
    (hg : L[i]? = some (g, .slice (some ⟨gb, 0, none⟩) g.b.length gc)) :
    NetRep ((w.setCell ⟨gb, k, none⟩ (.int .u8 y.toNat)).setCell ⟨ab, 3 * i + 2, none⟩ (.bool true)) nb ((L.map (·.1)).set i { g with b := g.b.set k y, bent := true }) (netFp nb (.slice (some ⟨ab, 0, none⟩) L.length cap) L) ∧
      Chg (netFp nb (.slice (some ⟨ab, 0, none⟩) L.length cap) L) (netFp nb (.slice (some ⟨ab, 0, none⟩) L.length cap) L) w ((w.setCell ⟨gb, k, none⟩ (.int .u8 y.toNat)).setCell ⟨ab, 3 * i + 2, none⟩ (.bool true)) := by
  have hrep : NetRep w nb (L.map (·.1)) _ := ⟨_, L, rfl, rfl, hnd, h0, h1, h2⟩
  have hlt := hrep.lt
  have hm := List.mem_of_getElem? hg
  have hgm : gb ∈ L.flatMap fun p => p.2.ownBlock.toList := List.mem_flatMap.2 ⟨_, hm, by simp [Value.ownBlock]⟩
  have hd1 := List.nodup_cons.1 hnd
  have hd2 := List.nodup_append.1 hd1.2
  have hab : ab ∈ (Value.slice (some ⟨ab, 0, none⟩) L.length cap).ownBlock.toList := by simp [Value.ownBlock]
  have n1 : gb ≠ nb := fun e => hd1.1 (e ▸ List.mem_append_right _ hgm)
  have n2 : ab ≠ nb := fun e => hd1.1 (e ▸ List.mem_append_left _ hab)
  have n3 : ab ≠ gb := fun e => hd2.2.2 ab hab gb hgm e
  have hx := (h2 _ hm).1
  have hset : (L.map (·.1)).set i { g with b := g.b.set k y, bent := true } = (L.set i ({ g with b := g.b.set k y, bent := true }, .slice (some ⟨gb, 0, none⟩) g.b.length gc)).map (·.1) := by rw [List.map_set]
  refine ⟨⟨.slice (some ⟨ab, 0, none⟩) L.length cap, _, hset, (netFp_set nb _ L i g _ _ hg).symm, hnd, ?_, ?_, ?_⟩, ⟨rfl, rfl, rfl, by simp [World.setCell], fun q hq hqn => ?_, fun q hq => .inl hq⟩⟩
  · rw [Below.heap_setCell _ _ _ _ (Ne.symm n2), Below.heap_setCell _ _ _ _ (Ne.symm n1)]
    exact h0
  · have h3 := ownsRow_same (w' := w.setCell ⟨gb, k, none⟩ (.int .u8 y.toNat)) h1 fun b hb => heap_set_ne (by simp [Value.ownBlock] at hb; omega)
    have h4 := (h3.stored (3 * i + 2) (.bool true)).1
    rw [gflat_set L i g { g with b := g.b.set k y, bent := true } _ hg rfl]
    simpa using h4
  · intro p hp
    obtain ⟨j, hj⟩ := List.mem_iff_getElem?.1 hp
    rw [List.getElem?_set] at hj
    by_cases e : i = j
    · subst e
      have hil := (List.getElem?_eq_some_iff.1 hg).1
      simp only [if_pos hil, if_true, Option.some.injEq] at hj
      subst hj
      have h5 := (hx.stored k (.int .u8 y.toNat)).1
      have h6 := ownsRow_same (w' := (w.setCell ⟨gb, k, none⟩ (.int .u8 y.toNat)).setCell ⟨ab, 3 * i + 2, none⟩ (.bool true)) h5 fun b hb => heap_set_ne (by simp [Value.ownBlock] at hb; omega)
      refine ⟨?_, fun e => (h2 _ hm).2 (List.eq_nil_of_length_eq_zero (by simpa using congrArg List.length e))⟩
      simpa [bcells_set] using h6
    · rw [if_neg e] at hj
      have hpm := List.mem_of_getElem? hj
      refine ⟨ownsRow_same (h2 p hpm).1 fun b hb => ?_, (h2 p hpm).2⟩
      have hbm : b ∈ L.flatMap fun p => p.2.ownBlock.toList := List.mem_flatMap.2 ⟨p, hpm, by simp [hb]⟩
      have hbg : b ≠ gb := fun e2 => nodup_flatMap_ne (f := fun p : G × Value => p.2.ownBlock.toList) hd2.2.1 hj hg (Ne.symm e) (k := b) (by simp [hb]) (by simp [Value.ownBlock, e2])
      have hba : b ≠ ab := fun e2 => hd2.2.2 ab hab b hbm e2.symm
      rw [Below.heap_setCell _ _ _ _ hba, Below.heap_setCell _ _ _ _ hbg]
  · simp only [netFp, List.mem_cons, List.mem_append, not_or] at hqn
    rw [Below.heap_setCell _ _ _ _ (fun e : q = ab => hqn.2.1 (e ▸ hab)), Below.heap_setCell _ _ _ _ (fun e : q = gb => hqn.2.2 (e ▸ hgm))]

/-- one object goes over into the next -/
def Moved (R : World → List Nat → Prop) (v : Value) (w : World) (F : List Nat) (e : Ending) (w' : World) : Prop :=
  e = .returned v ∧ ∃ F', R w' F' ∧ Chg F F' w w'

set_option maxHeartbeats 800000 in
theorem net_bend (nb : Nat) (l : List G) (F : List Nat) (i k : Int) (x : UInt8) (w : World) (g : G) (hn : NetRep w nb l F) (hl : l.length ≤ 4096) (hi : 0 ≤ i) (hg : l[i.toNat]? = some g) (hgl : g.b.length ≤ 4096)
    (hk : 0 ≤ k) (hk' : k < g.b.length) (hx : x ≠ 0) :
    Calls Try.prog 19 #[.pointer (some ⟨nb, 0, none⟩), .int .i64 i, .int .i64 k, .int .u8 x.toNat] w
      (Moved (fun w' F' => NetRep w' nb (l.set i.toNat { g with b := g.b.set k.toNat (g.b.getD k.toNat 0 ^^^ x), bent := true }) F') (.bool true) w F) := by
  obtain ⟨v, L, rfl, rfl, hnd, h0, h1, h2⟩ := hn
  obtain ⟨i, rfl⟩ := Int.eq_ofNat_of_zero_le hi
  obtain ⟨k, rfl⟩ := Int.eq_ofNat_of_zero_le hk
  rw [show ((i : Int)).toNat = i from by omega] at hg ⊢
  rw [show ((k : Int)).toNat = k from by omega]
  have hi2 : i < L.length := by simpa using (List.getElem?_eq_some_iff.1 hg).1
  obtain ⟨ab, cap, g', gb, gc, rfl, hg', e0, e1, e2, hfz, hgne, hgo, _⟩ := NetRep.get (nb := nb) h1 h2 i hi2
  obtain rfl : g' = g := by simpa [hg'] using hg
  have hkl : k < g'.b.length := by omega
  have c0 : w.cell? ⟨nb, 0, none⟩ = some (.slice (some ⟨ab, 0, none⟩) L.length cap) := by simp [World.cell?, h0]
  have ck : w.cell? ⟨gb, k, none⟩ = some (.int .u8 (g'.b.getD k 0).toNat) := by
    rw [hgo.cellAt k (by omega)]
    simp [bcells, List.getD, List.getElem?_eq_getElem hkl]
  obtain ⟨y0, hy0⟩ : ∃ y, y = g'.b.getD k 0 := ⟨_, rfl⟩
  rw [← hy0] at ck ⊢
  have fk : w.frozen? ⟨gb, k, none⟩ = false := hgo.frozenAt k
  have e1' : w.cell? ⟨ab, i * 3 + 1, none⟩ = some (.slice (some ⟨gb, 0, none⟩) g'.b.length gc) := by rw [Nat.mul_comm i 3]; exact e1
  have e2' : w.cell? ⟨ab, i * 3 + 2, none⟩ = some (.bool g'.bent) := by rw [Nat.mul_comm i 3]; exact e2
  have f2 := hfz (i * 3 + 2)
  have hx0 : ((x.toNat : Int) == 0) = false := by
    simp only [beq_eq_false_iff_ne, ne_eq]
    intro e
    exact hx (UInt8.toNat.inj (by simp; omega))
  have hl' : L.length ≤ 4096 := by simpa using hl
  have hclose := bend_close (i := i) (k := k) (y := y0 ^^^ x) h0 h1 h2 hnd hg'
  have HC := hide hclose
  have hnab : gb ≠ ab := by
    intro e
    have hd1 := List.nodup_cons.1 hnd
    have hd2 := List.nodup_append.1 hd1.2
    exact hd2.2.2 ab (by simp [Value.ownBlock]) gb (List.mem_flatMap.2 ⟨_, List.mem_of_getElem? hg', by simp [Value.ownBlock]⟩) e.symm
  have hxb : x.toNat < 256 := x.toNat_lt
  have hyb : y0.toNat < 256 := y0.toNat_lt
  clear hclose h0 h1 h2 hnd hg hgo e0 e1 e2 hfz hgne hy0
  go_enter Try.func19, Try.ntmps19
  go_wp2_with (go_at_call 21; refine (net_at nb ab 0 L.length cap _ _ hl' c0 (by omega) (by omega)).mono ?_; rintro e w' ⟨rfl, rfl⟩)
  go_ret
  rw [u8_xor_nat _ _ hyb hxb, ← UInt8.toNat_xor, Nat.mul_comm i 3]
  exact ⟨rfl, _, HC.out⟩

end Go.Proofs.Ytipobpcafkhknaa
